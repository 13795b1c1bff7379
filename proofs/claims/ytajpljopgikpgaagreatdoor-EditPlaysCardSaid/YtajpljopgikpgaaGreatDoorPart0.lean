/- A part of the proof that the named laws of this program answer true, whatever the input. -/
import Derived.Test.YtajpljopgikpgaaGreatDoorTreeF0
import Derived.Test.YtajpljopgikpgaaGreatDoorTreeF1
import Derived.Test.YtajpljopgikpgaaGreatDoorTreeF2
import Derived.Test.YtajpljopgikpgaaGreatDoorLaw0
import Derived.Conc.LoneSelect
import Derived.KernelRfl
import Derived.Laws.Rows
open BitVec renaming ofInt→aw
open ByteArray renaming size_extract→ft
open List renaming range→dh,mem_singleton→au,mem_cons→aB
open Nat renaming zero_add→aU
open Option renaming getD_some→oo
namespace Go.Proofs
open Go.Lift
theorem D1(n:Int):0≤IntKind.wrap .u64 n∧IntKind.wrap .u64 n<18446744073709551616:=by rw[IntKind.wrap_u64];omega
theorem jj{x:Int}(h: -4611686018427387904≤x∧x≤4611686018427387904):IntKind.wrap .i64 x=x:=Go.IntWalk.i64_in _ (by omega)
theorem cO{i n:Nat}(h:i<n)(a:n≤4611686018427387904):IntKind.wrap .i64 ((i:Int)+1)=((i+1:Nat):Int):=by rw[jj (by omega)];omega
theorem xW{h:af}{b i:Nat}{c:Array Value}{t:TypeId}{v:Value}{k:af→Prop}(a:h[b]? =some (.cells c t (0,0)))
  (d:∀h',h'[b]? =some (.cells (c.setIfInBounds i v) t (0,0))→Upd (· =b) h h'→k h'):At (hset h ⟨b,i,none⟩ v) k:=by
 refine d _ ?_ (Upd.hset _ _ rfl);rw[CR a,jw a]
def OF(a b:Int):Int:=IntKind.wrap .u64 (aw (IntKind.bits .u64) a&&&aw (IntKind.bits .u64) b).toNat
def dT(a b:Int):Int:=IntKind.wrap .u64 (aw (IntKind.bits .u64) a^^^aw (IntKind.bits .u64) b).toNat
def Ho(a b:Int):Int:=IntKind.wrap .u64 (aw (IntKind.bits .u64) a|||aw (IntKind.bits .u64) b).toNat
def Hc(x n:Int):Int:=
 Ho (IntKind.wrap .u64 (x*2^(min (OF (IntKind.wrap .u64 n) 63).toNat (IntKind.bits .u64)))) (Int.fdiv x (2^(min (IntKind.wrap .u64 (64-OF (IntKind.wrap .u64 n) 63)).toNat (IntKind.bits .u64))))
theorem D6{x n:Int}{h:af}{K:Int→af→Prop}(a:K (Hc x n) h):HC PG dP [.int .u64 x,.int .i64 n] [.c (.int .u64)] K h:=by
 refine ww x n ?_;unfold oU;exact⟨(D1 _).1,(D1 _).1,a⟩
abbrev Q4:=Int×Int×Int×Int
def q4(s:Q4):Array Value:= #[.int .u64 s.1,.int .u64 s.2.1,.int .u64 s.2.2.1,.int .u64 s.2.2.2]
def W7(a b:Int):Int:=IntKind.wrap .u64 (a+b)
def Xr(s:Q4):Q4:=(W7 s.1 s.2.1,s.2)
def XR(s:Q4):Q4:=(s.1,dT (Hc s.2.1 13) s.1,s.2.2)
def YS(s:Q4):Q4:=(Hc s.1 32,s.2)
def Zt(s:Q4):Q4:=(s.1,s.2.1,W7 s.2.2.1 s.2.2.2,s.2.2.2)
def aam(s:Q4):Q4:=(s.1,s.2.1,s.2.2.1,dT (Hc s.2.2.2 16) s.2.2.1)
def aaK(s:Q4):Q4:=(W7 s.1 s.2.2.2,s.2)
def abl(s:Q4):Q4:=(s.1,s.2.1,s.2.2.1,dT (Hc s.2.2.2 21) s.1)
def abw(s:Q4):Q4:=(s.1,s.2.1,W7 s.2.2.1 s.2.1,s.2.2.2)
def s09(s:Q4):Q4:=(s.1,dT (Hc s.2.1 17) s.2.2.1,s.2.2)
def s10(s:Q4):Q4:=(s.1,s.2.1,Hc s.2.2.1 32,s.2.2.2)
def lV(s:Q4):Q4:=s10 (s09 (abw (abl (aaK (aam (Zt (YS (XR (Xr s)))))))))
def p8:Nat→Q4→Q4
 |0,s=>s
 |n+1,s=>p8 n (lV s)
theorem qX{h:af}{b i:Nat}{t:TypeId}{s s':Q4}{v:Value}{k:af→Prop}(d:h[b]? =some (.cells (q4 s) t (0,0))) (e:(q4 s).setIfInBounds i v=q4 s')
  (g:∀a,a[b]? =some (.cells (q4 s') t (0,0))→Upd (· =b) h a→k a):At (hset h ⟨b,i,none⟩ v) k:=
 xW d fun a c f=>g a (e▸c) f
theorem Kf{n:Nat}(hn:n≤100){h:af}{b:Nat}{t:TypeId}{s:Q4}(C:h[b]? =some (.cells (q4 s) t (0,0))) {K:Unit→af→Prop}
  (R:∀y,y[b]? =some (.cells (q4 (p8 n s)) t (0,0))→Upd (· =b) h y→K () y):HC PG jR [.pointer (some ⟨b,0,none⟩),.int .i64 n] [] K h:=by
 refine BR _ _ ?_;unfold uy bH cS cz m0;refine LoopP.ghost (fun(g:Nat×Q4) (Q:Int) y=>Q=(g.1:Int)∧g.1≤n∧y[b]? =some (.cells (q4 g.2) t (0,0))∧Upd (· =b) h y∧p8 (n-g.1) g.2=p8 n s) (fun g=>n-g.1) (0,s) ⟨rfl,Nat.zero_le _,C,Upd.refl _ _,rfl⟩ ?_
 rintro I ⟨i,s1⟩ Q y ⟨P,hi,a,O,z⟩ S;simp only at P hi a z;subst P;refine aM (fun u=>?_) fun W=>?_
 ·have u:i<n:=by omega
  have c:∀{h:af} {s:Q4} {i:Nat},h[b]? =some (.cells (q4 s) t (0,0))→aR h ⟨b,0+i,none⟩=(q4 s)[i]?:=fun C=>by rw[aU];exact bI C
  have w:∀{h:af} {s:Q4} {i:Nat},h[b]? =some (.cells (q4 s) t (0,0))→i<4→Wr h ⟨b,0+i,none⟩:=fun C hi=>by rw[aU];exact jd C hi
  simp only[show((0:Int)).toNat*1=0 from rfl,show((1:Int)).toNat*1=1 from rfl,show((2:Int)).toNat*1=2 from rfl,show((3:Int)).toNat*1=3 from rfl]
  refine⟨_,rfl,by decide,_,c (i:=0) a,_,rfl,by decide,_,c (i:=1) a,_,rfl,by decide,w (i:=0) a (by decide),qX (s':=Xr s1) a rfl fun X j N=>?_⟩
  refine⟨_,rfl,by decide,_,c (i:=1) j,_,rfl,by decide,_,c (i:=0) j,_,rfl,D6 ⟨c (i:=0) j,by decide,w (i:=1) j (by decide),qX (s':=XR (Xr s1)) j rfl fun h3 v J=>?_⟩⟩
  refine⟨_,rfl,by decide,_,c (i:=0) v,_,rfl,D6 ⟨by decide,w (i:=0) v (by decide),qX (s':=YS (XR (Xr s1))) v rfl fun h4 p G=>?_⟩⟩
  refine⟨_,rfl,by decide,_,c (i:=2) p,_,rfl,by decide,_,c (i:=3) p,_,rfl,by decide,w (i:=2) p (by decide),qX (s':=Zt (YS (XR (Xr s1)))) p rfl fun h5 k E=>?_⟩
  refine⟨_,rfl,by decide,_,c (i:=3) k,_,rfl,by decide,_,c (i:=2) k,_,rfl,D6 ⟨c (i:=2) k,by decide,w (i:=3) k (by decide),qX (s':=aam (Zt (YS (XR (Xr s1))))) k rfl fun h6 q M=>?_⟩⟩
  refine⟨_,rfl,by decide,_,c (i:=0) q,_,rfl,by decide,_,c (i:=3) q,_,rfl,by decide,w (i:=0) q (by decide),qX (s':=aaK (aam (Zt (YS (XR (Xr s1)))))) q rfl fun h7 d H=>?_⟩
  refine⟨_,rfl,by decide,_,c (i:=3) d,_,rfl,by decide,_,c (i:=0) d,_,rfl,D6 ⟨c (i:=0) d,by decide,w (i:=3) d (by decide),qX (s':=abl (aaK (aam (Zt (YS (XR (Xr s1))))))) d rfl fun Y o L=>?_⟩⟩
  refine⟨_,rfl,by decide,_,c (i:=2) o,_,rfl,by decide,_,c (i:=1) o,_,rfl,by decide,w (i:=2) o (by decide),qX (s':=abw (abl (aaK (aam (Zt (YS (XR (Xr s1)))))))) o rfl fun Z m F=>?_⟩
  refine⟨_,rfl,by decide,_,c (i:=1) m,_,rfl,by decide,_,c (i:=2) m,_,rfl,D6 ⟨c (i:=2) m,by decide,w (i:=1) m (by decide),qX (s':=s09 (abw (abl (aaK (aam (Zt (YS (XR (Xr s1))))))))) m rfl fun T f B=>?_⟩⟩
  refine⟨_,rfl,by decide,_,c (i:=2) f,_,rfl,D6 ⟨by decide,w (i:=2) f (by decide),qX (s':=lV s1) f rfl fun V D A=>?_⟩⟩
  rw[cO u (by omega)];refine S (i+1,lV s1) _ _ ⟨rfl,u,D,O.tr (N.tr (J.tr (G.tr (E.tr (M.tr (H.tr (L.tr (F.tr (B.tr A))))))))),?_⟩ (by simp only;omega);simp only;rw[←z,show n-i=(n-(i+1))+1 by omega];rfl
 ·obtain rfl:i=n:=by omega
  rw[Nat.sub_self]at z;have z:s1=p8 i s:=z;rw[←z]at R;exact R _ a O
end Go.Proofs
namespace Go.Proofs
open Go Go.Lift Go.Conc Go.RowKit
theorem xU{w:World}{b i:Nat}{c:Array Value}{t:TypeId}{v:Value}(h:w.heap[b]? =some (.cells c t (0,0))) (hv:c[i]? =some v):w.cell? ⟨b,i,none⟩=some v:=by
 simp only[World.cell?,h];exact hv
theorem TR{w:World}{b i:Nat}{c:Array Value}{t:TypeId}(h:w.heap[b]? =some (.cells c t (0,0))):w.frozen? ⟨b,i,none⟩=false:=by
 simp only[World.frozen?,h];simp
set_option maxRecDepth 100000 in
theorem S9{w:World}{pb cb cap s r:Nat}{i:Int}{a:List Value}(d:w.heap[pb]? =some (.cells #[.chan (some cb)] 130 (0,0))) (hc:w.heap[cb]? =some (.chan cap (Value.int .i64 i::a).toArray false s r false)):
  Calls Tryz.prog 33 #[.pointer (some ⟨pb,0,none⟩)] w fun e w'=>e=.returned (.tuple #[.pointer (some ⟨w.heap.size,0,none⟩),.int .i64 0])∧w'=((w.setChan cb cap a.toArray false s (r+1) false).alloc (.cells #[.pointer (some ⟨pb,0,none⟩),.int .i64 i,.bool true] 140 (0,0))):=by
 refine calls_of_loneTo fun cs=>?_
 have e:Frame.enter Tryz.prog 33 #[.pointer (some ⟨pb,0,none⟩)] .normal=(base 33).at ⟨#[.pointer (some ⟨pb,0,none⟩),undef,undef,undef,undef,undef,undef,undef,undef,undef,undef,undef,undef,undef,undef,undef,undef,undef,undef],[]⟩ [.code (Tryz.f33.body.getD .skip)]:=by
  simp[Frame.enter,Frame.at,Tryz.func33,base,Tryz.f33]
 rw[e];have aR:=xU d (i:=0) rfl;have b:(Value.int .i64 i::a).toArray.extract 1 (Value.int .i64 i::a).toArray.size=a.toArray:=by simp
 refine LoneTo.goes (n:=22) ?_;simp only[Tryz.f33,oo];s_c stepG_seq
 s_reg
 s_op
 s_op
 s_c stepG_region_end
 s_c stepG_seq
 s_c stepG_seq
 s_reg
 s_op
 s_op
 s_c stepG_region_end
 s_cond false
 s_c stepG_skip
 s_c stepG_seq
 s_reg
 s_op
 s_op
 s_op
 s_op
 s_c stepG_region_end
 s_c stepG_seq
 s_reg
 s_stop
 refine LoneTo.step (step_lone_select_recv_buf (c:=cb) (z:=.int .i64 0) (stepG_comm (cases:= #[rcase cb (.int .i64 0)]) (blocking:=false) (shape:=.select) (w':=w) rfl rfl (by decide) (by simp[go_sem,execOp,rcase,Act.eval])) hc (by simp)) ?_;rw[b];rw[Frame.finish_at];walk_nrm
 refine LoneTo.goes (n:=20) ?_;s_op
 s_op
 s_c stepG_region_end
 s_c stepG_block
 s_cond true
 s_c stepG_seq
 s_reg
 s_op
 s_op
 s_c stepG_region_end
 s_c stepG_seq
 s_reg
 s_op
 s_op
 s_op
 s_op
 s_op
 s_op
 s_c stepG_region_end
 s_c stepG_ret'
 s_stop
 refine LoneTo.done ⟨.returned (.tuple #[.pointer (some ⟨w.heap.size,0,none⟩),.int .i64 0]),_,rfl,⟨rfl,rfl⟩,rfl,rfl,rfl,rfl,_,Tryz.func33,by simp[results,Tryz.f33,Frame.at,size_setChan]⟩
set_option maxRecDepth 100000 in
theorem Pp{w:World}{pb cb cap s r:Nat}(a:w.heap[pb]? =some (.cells #[.chan (some cb)] 130 (0,0))) (hc:w.heap[cb]? =some (.chan cap #[] false s r false)):
  Calls Tryz.prog 33 #[.pointer (some ⟨pb,0,none⟩)] w fun e w'=>e=.returned (.tuple #[.pointer none,.int .i64 6])∧w'=w:=by
 refine calls_of_loneTo fun cs=>?_
 have e:Frame.enter Tryz.prog 33 #[.pointer (some ⟨pb,0,none⟩)] .normal=(base 33).at ⟨#[.pointer (some ⟨pb,0,none⟩),undef,undef,undef,undef,undef,undef,undef,undef,undef,undef,undef,undef,undef,undef,undef,undef,undef,undef],[]⟩ [.code (Tryz.f33.body.getD .skip)]:=by
  simp[Frame.enter,Frame.at,Tryz.func33,base,Tryz.f33]
 rw[e];have aR:=xU a (i:=0) rfl;refine LoneTo.goes (n:=22) ?_;simp only[Tryz.f33,oo];s_c stepG_seq
 s_reg
 s_op
 s_op
 s_c stepG_region_end
 s_c stepG_seq
 s_c stepG_seq
 s_reg
 s_op
 s_op
 s_c stepG_region_end
 s_cond false
 s_c stepG_skip
 s_c stepG_seq
 s_reg
 s_op
 s_op
 s_op
 s_op
 s_c stepG_region_end
 s_c stepG_seq
 s_reg
 s_stop
 refine LoneTo.step (step_lone_select_default (c:=cb) (z:=.int .i64 0) (stepG_comm (cases:= #[rcase cb (.int .i64 0)]) (blocking:=false) (shape:=.select) (w':=w) rfl rfl (by decide) (by simp[go_sem,execOp,rcase,Act.eval])) hc) ?_;rw[Frame.finish_at];walk_nrm
 refine LoneTo.goes (n:=11) ?_;s_op
 s_op
 s_c stepG_region_end
 s_c stepG_block
 s_cond false
 s_c stepG_seq
 s_reg
 s_op
 s_op
 s_c stepG_region_end
 s_c stepG_ret'
 s_stop
 refine LoneTo.done ⟨.returned (.tuple #[.pointer none,.int .i64 6]),_,rfl,⟨rfl,rfl⟩,rfl,rfl,rfl,rfl,_,Tryz.func33,by simp[results,Tryz.f33,Frame.at]⟩
theorem mkc(w:World)(n:Nat)(h:n≤4096):(Instr.makeChan 128 (.int .i64 n)).run Tryz.prog w=.ok (.chan (some w.heap.size)) (w.alloc (.chan n #[] false 0 0 false)):=by
 have b:Tryz.prog.underlying 128=some (.chan .both 3):=by kernel_rfl
 have c:(Tryz.prog.info? 3).map (·.bytes)=some 8:=by kernel_rfl
 obtain⟨i,hi,a⟩:=Option.map_eq_some_iff.1 c;exact run_makeChan (P:=Tryz.prog) (w:=w) b hi .i64 n (by omega) (by rw[a];omega)
noncomputable abbrev Gm:Code:=match Tryz.f32.body with|some (.seq _ (.seq _ (.seq _ (.seq (.seq _ (.block _ (.loop c))) _))))=>c|_=>.skip
noncomputable abbrev L3:Code:=match Tryz.f32.body with|some (.seq _ (.seq _ (.seq _ (.seq _ c))))=>c|_=>.skip
set_option maxRecDepth 100000 in
set_option maxHeartbeats 4000000 in
theorem VL{n pb cb:Nat}{Q:Goroutine→World→Prop}{cs:List Frame}(N:n≤4096)(E:pb≠cb):∀(m i:Nat) (u a o k q p g d f b:Value) (ids:List Value) (s r:Nat) (w:World),i+m=n→ids.length=i→w.heap[pb]? =some (.cells #[.chan (some cb)] 130 (0,0))→w.heap[cb]? =some (.chan n ids.toArray false s r false)→
  (∀(u a o k q p g d f b:Value) (ids':List Value) (s' A:Nat) (w':World),ids'=ids++(dh m).map (fun j=>Value.int .i64 ((i+j:Nat)+1:Int))→(w'=w∨w'=w.setChan cb n ids'.toArray false s' A false)→w'.heap[cb]? =some (.chan n ids'.toArray false s' A false)→LoneTo Tryz.prog Q (G ((base 32).at ⟨#[.int .i64 n,undef,.pointer none,.int .i64 0,.pointer (some ⟨pb,0,none⟩),u,.int .i64 n,.bool false,.bool false,.int .i64 n,.bool false,.bool false,.int .i64 n,.chan (some cb),.agg #[.chan (some cb)],.pointer (some ⟨pb,0,none⟩),.int .i64 n,.int .i64 n,a,o,k,q,p,g,d,f,b,undef],[]⟩ [.code L3]) cs) w')→
  LoneTo Tryz.prog Q (G ((base 32).at ⟨#[.int .i64 n,undef,.pointer none,.int .i64 0,.pointer (some ⟨pb,0,none⟩),u,.int .i64 n,.bool false,.bool false,.int .i64 n,.bool false,.bool false,.int .i64 n,.chan (some cb),.agg #[.chan (some cb)],.pointer (some ⟨pb,0,none⟩),.int .i64 n,.int .i64 i,a,o,k,q,p,g,d,f,b,undef],[]⟩ [.code Gm,.inLoop Gm,.inBlock 0,.code L3]) cs) w:=by
 intro m;induction m with
 |zero=>
  intro i u a o k q p g d f b ids s r w v B F hc D;have v:i=n:=by omega
  subst v;have C:¬((i:Int)<(i:Int)):=by omega
  refine LoneTo.goes (n:=9) ?_;simp only[Gm,Tryz.f32];s_c stepG_seq
  s_reg
  s_op
  s_c stepG_region_end
  s_c stepG_seq
  s_cond false
  s_exit
  s_stop
  exact D _ _ _ _ _ _ _ _ _ _ ids s r w (by simp) (.inl rfl) hc
 |succ m ih=>
  intro i u a o k q p g d f b ids s r w v B F hc D;have C:((i:Int)<(n:Int)):=by omega
  have aR:=xU F (i:=0) rfl;have M:IntKind.wrap .i64 ((i:Int)+1)=((i+1:Nat):Int):=by rw[jj (by omega)];omega
  refine LoneTo.goes (n:=21) ?_;simp only[Gm,Tryz.f32];s_c stepG_seq
  s_reg
  s_op
  s_c stepG_region_end
  s_c stepG_seq
  s_cond true
  s_c stepG_skip
  s_c stepG_seq
  s_c stepG_block
  s_c stepG_seq
  s_reg
  s_op
  s_op
  s_c stepG_region_end
  s_reg
  s_op
  s_op
  s_op
  s_op
  s_op
  s_op
  s_stop
  refine LoneTo.step (step_lone_send_room (c:=cb) (cap:=n) (buf:=ids.toArray) (s:=s) (r:=r) (tm:=false) (stepG_comm (cases:= #[scase cb (.int .i64 ((i:Int)+1)) (.tuple #[])]) (blocking:=true) (shape:=.send) (w':=w) rfl rfl (by decide) (by simp[execOp,scase,Act.eval])) hc (by simp[B];omega)) ?_;rw[Frame.finish_at];walk_nrm
  have hz:cb<w.heap.size:=(Array.getElem?_eq_some_iff.1 hc).1;refine LoneTo.goes (n:=7) ?_;s_c stepG_region_end
  s_c stepG_inBlock
  s_reg
  s_op
  s_op
  s_c stepG_region_end
  s_c stepG_inLoop
  s_stop
  have H:((i:Int)+1)=((i+1:Nat):Int):=by omega
  rw[H];refine ih (i+1) _ _ _ _ _ _ _ _ _ _ (ids++ [Value.int .i64 ((i+1:Nat):Int)]) (s+1) r (w.setChan cb n (ids++ [Value.int .i64 ((i+1:Nat):Int)]).toArray false (s+1) r false) (by omega) (by simp[B]) ?_ (heap_setChan _ _ _ _ _ _ _ _ hz) fun u a o k q p g d f b ids' s' A w' K y z=>D u a o k q p g d f b ids' s' A w' ?_ (.inr ?_) z
  ·simp only[World.setChan,Array.getElem?_setIfInBounds]
   rw[if_neg (Ne.symm E)];exact F
  ·rw[K,List.range_succ_eq_map]
   simp[Nat.add_comm,Nat.add_left_comm,Function.comp_def]
  ·rcases y with y|y
   ·subst y
    rw[heap_setChan _ _ _ _ _ _ _ _ hz]at z;simp only[Option.some.injEq,Obj.chan.injEq]at z;obtain⟨_,I,_,J,L,_⟩:=z;rw[I,J,L]
   ·rw[y];simp[World.setChan]
set_option maxRecDepth 100000 in
set_option maxHeartbeats 4000000 in
theorem VK{n:Nat}{w:World}(B:1≤n)(a:n≤4096):Calls Tryz.prog 32 #[.int .i64 n] w fun e w'=>e=.returned (.tuple #[.pointer (some ⟨w.heap.size+1,0,none⟩),.int .i64 0])∧∃(ids:List Value) (s r:Nat),ids=(dh n).map (fun j=>Value.int .i64 ((0+j:Nat)+1:Int))∧w'.heap[w.heap.size]? =some (.chan n ids.toArray false s r false)∧(w'=(w.alloc (.chan n #[] false 0 0 false)).alloc (.cells #[.chan (some w.heap.size)] 130 (0,0))∨w'=((w.alloc (.chan n #[] false 0 0 false)).alloc (.cells #[.chan (some w.heap.size)] 130 (0,0))).setChan w.heap.size n ids.toArray false s r false):=by
 refine calls_of_loneTo fun cs=>?_
 have e:Frame.enter Tryz.prog 32 #[.int .i64 n] .normal=(base 32).at ⟨#[.int .i64 n,undef,undef,undef,undef,undef,undef,undef,undef,undef,undef,undef,undef,undef,undef,undef,undef,undef,undef,undef,undef,undef,undef,undef,undef,undef,undef,undef],[]⟩ [.code (Tryz.f32.body.getD .skip)]:=by
  simp[Frame.enter,Frame.at,Tryz.func32,base,Tryz.f32]
 rw[e];have z:=fun w=>mkc w n a
 have c1:¬((n:Int)<1):=by omega
 have c2:¬(4096<(n:Int)):=by omega
 refine LoneTo.goes (n:=33) ?_;simp only[Tryz.f32,oo];s_c stepG_seq
 s_reg
 s_op
 s_op
 s_c stepG_region_end
 s_c stepG_seq
 s_c stepG_seq
 s_reg
 s_op
 s_op
 s_op
 s_op
 s_op
 s_op
 s_c stepG_region_end
 s_cond false
 s_c stepG_skip
 s_c stepG_seq
 s_reg
 s_op
 s_op
 s_op
 s_op
 s_op
 s_c stepG_region_end
 s_c stepG_seq
 s_c stepG_seq
 s_reg
 s_op
 s_op
 s_c stepG_region_end
 s_c stepG_block
 s_c stepG_loop
 s_stop
 have d:((w.alloc (.chan n #[] false 0 0 false)).alloc (.cells #[.chan (some w.heap.size)] 130 (0,0))).heap[w.heap.size+1]? =some (.cells #[.chan (some w.heap.size)] 130 (0,0)):=by
  have:=heap_alloc_new (w.alloc (.chan n #[] false 0 0 false)) (.cells #[.chan (some w.heap.size)] 130 (0,0));simpa using this
 have g:((w.alloc (.chan n #[] false 0 0 false)).alloc (.cells #[.chan (some w.heap.size)] 130 (0,0))).heap[w.heap.size]? =some (.chan n #[] false 0 0 false):=by
  show((w.heap.push (.chan n #[] false 0 0 false)).push (.cells #[.chan (some w.heap.size)] 130 (0,0)))[w.heap.size]? =_
  simp[Array.getElem?_push]
 refine VL a (by omega) n 0 _ _ _ _ _ _ _ _ _ _ [] 0 0 _ (by omega) rfl d g fun A c o y b p u k q i ids s r w' f v m=>?_
 refine LoneTo.goes (n:=7) ?_;simp only[L3,Tryz.f32];s_c stepG_seq
 s_reg
 s_op
 s_op
 s_op
 s_c stepG_region_end
 s_c stepG_ret'
 s_stop
 refine LoneTo.done ⟨.returned (.tuple #[.pointer (some ⟨w.heap.size+1,0,none⟩),.int .i64 0]),_,rfl,⟨rfl,ids,s,r,by simpa[dh]using f,m,v⟩,rfl,rfl,rfl,rfl,_,Tryz.func32,by simp[results,Tryz.f32,Frame.at]⟩
theorem gt{md:Region.Mode}{ops:Array Oper}{fuel t:Nat}{listed:Array Bool}{rs:List Nat}(c:Region.ready md ops listed=rs)(b:rs≠[]):∃i∈rs,∃t',Region.linearise.go md ops (fuel+1) t listed []=i::Region.linearise.go md ops fuel t' (listed.setIfInBounds i true) []:=by
 subst c;simp only[Region.linearise.go];change∃i∈Region.ready md ops listed,∃t',(match(Region.ready md ops listed)[t%(Region.ready md ops listed).length]? with
  |some i=>Region.linearise.go md ops fuel (t/(Region.ready md ops listed).length) (listed.setIfInBounds i true) [i]
  |none=> [].reverse)=i::Region.linearise.go md ops fuel t' (listed.setIfInBounds i true) []
 have d:0<(Region.ready md ops listed).length:=List.length_pos_iff.2 b;have a:t%(Region.ready md ops listed).length<(Region.ready md ops listed).length:=Nat.mod_lt _ d;rw[List.getElem?_eq_getElem a];refine⟨_,List.getElem_mem a,t/(Region.ready md ops listed).length,?_⟩;simp only[];rw[linearise_go_acc];rfl
noncomputable abbrev aW:Array Oper:=match Tryz.f37.body with|some (.seq _ (.seq _ (.seq _ (.seq (.region _ o _) _))))=>o|_=> #[]
section
variable {pb tb cb:Nat} {id:Int} {u2 u3 u4 u5 u6 u7 u8 u9 u10 u11 u12 u13 u14 u15 u16 u17 u18 u19 u20 u21 u22:Value} {Q:Goroutine→World→Prop} {cs:List Frame} {kk:List Item} {w:World}
set_option maxRecDepth 100000
theorem Wc(d:w.cell? ⟨pb,0,none⟩=some (.chan (some cb)))(c:w.cell? ⟨tb,1,none⟩=some (.int .i64 id))(a:∀t,LoneTo Tryz.prog Q (G ((base 37).at ⟨#[.pointer (some ⟨pb,0,none⟩),.pointer (some ⟨tb,0,none⟩),u2,u3,u4,u5,u6,u7,u8,u9,u10,u11,u12,u13,u14,u15,u16,u17,u18,u19,u20,u21,u22,.pointer (some ⟨pb,0,none⟩),.pointer (some ⟨pb,0,none⟩),.pointer (some ⟨pb,0,none⟩),.chan (some cb),.pointer (some ⟨tb,0,none⟩),.pointer (some ⟨tb,0,none⟩),.pointer (some ⟨tb,1,none⟩),.int .i64 id],[]⟩ (.inRegion aW (Region.linearise.go .any aW 1 t #[true,true,true,true,true,true,true,true,false] [])::kk)) cs) w)(t:Nat):LoneTo Tryz.prog Q (G ((base 37).at ⟨#[.pointer (some ⟨pb,0,none⟩),.pointer (some ⟨tb,0,none⟩),u2,u3,u4,u5,u6,u7,u8,u9,u10,u11,u12,u13,u14,u15,u16,u17,u18,u19,u20,u21,u22,.pointer (some ⟨pb,0,none⟩),.pointer (some ⟨pb,0,none⟩),.pointer (some ⟨pb,0,none⟩),.chan (some cb),.pointer (some ⟨tb,0,none⟩),.pointer (some ⟨tb,0,none⟩),.pointer (some ⟨tb,1,none⟩),undef],[]⟩ (.inRegion aW (Region.linearise.go .any aW 2 t #[true,true,true,true,true,true,true,false,false] [])::kk)) cs) w:=by
 obtain⟨i,hi,b,e⟩:=gt (md:=.any) (ops:=aW) (fuel:=1) (t:=t) (listed:= #[true,true,true,true,true,true,true,false,false]) (rs:= [7]) (by kernel_rfl) (by simp);rw[e];rw[au.1 hi];refine LoneTo.goes (n:=1) ?_;simp only[aW,Tryz.f37];s_op
 s_stop
 exact a b
theorem Wg(d:w.cell? ⟨pb,0,none⟩=some (.chan (some cb)))(c:w.cell? ⟨tb,1,none⟩=some (.int .i64 id))(a:∀t,LoneTo Tryz.prog Q (G ((base 37).at ⟨#[.pointer (some ⟨pb,0,none⟩),.pointer (some ⟨tb,0,none⟩),u2,u3,u4,u5,u6,u7,u8,u9,u10,u11,u12,u13,u14,u15,u16,u17,u18,u19,u20,u21,u22,.pointer (some ⟨pb,0,none⟩),.pointer (some ⟨pb,0,none⟩),.pointer (some ⟨pb,0,none⟩),.chan (some cb),.pointer (some ⟨tb,0,none⟩),.pointer (some ⟨tb,0,none⟩),.pointer (some ⟨tb,1,none⟩),.int .i64 id],[]⟩ (.inRegion aW (Region.linearise.go .any aW 1 t #[true,true,true,true,true,true,true,true,false] [])::kk)) cs) w)(t:Nat):LoneTo Tryz.prog Q (G ((base 37).at ⟨#[.pointer (some ⟨pb,0,none⟩),.pointer (some ⟨tb,0,none⟩),u2,u3,u4,u5,u6,u7,u8,u9,u10,u11,u12,u13,u14,u15,u16,u17,u18,u19,u20,u21,u22,.pointer (some ⟨pb,0,none⟩),.pointer (some ⟨pb,0,none⟩),.pointer (some ⟨pb,0,none⟩),undef,.pointer (some ⟨tb,0,none⟩),.pointer (some ⟨tb,0,none⟩),.pointer (some ⟨tb,1,none⟩),.int .i64 id],[]⟩ (.inRegion aW (Region.linearise.go .any aW 2 t #[true,true,true,false,true,true,true,true,false] [])::kk)) cs) w:=by
 obtain⟨i,hi,b,e⟩:=gt (md:=.any) (ops:=aW) (fuel:=1) (t:=t) (listed:= #[true,true,true,false,true,true,true,true,false]) (rs:= [3]) (by kernel_rfl) (by simp);rw[e];rw[au.1 hi];refine LoneTo.goes (n:=1) ?_;simp only[aW,Tryz.f37];s_op
 s_stop
 exact a b
theorem We(d:w.cell? ⟨pb,0,none⟩=some (.chan (some cb)))(b:w.cell? ⟨tb,1,none⟩=some (.int .i64 id))(a:∀t,LoneTo Tryz.prog Q (G ((base 37).at ⟨#[.pointer (some ⟨pb,0,none⟩),.pointer (some ⟨tb,0,none⟩),u2,u3,u4,u5,u6,u7,u8,u9,u10,u11,u12,u13,u14,u15,u16,u17,u18,u19,u20,u21,u22,.pointer (some ⟨pb,0,none⟩),.pointer (some ⟨pb,0,none⟩),.pointer (some ⟨pb,0,none⟩),.chan (some cb),.pointer (some ⟨tb,0,none⟩),.pointer (some ⟨tb,0,none⟩),.pointer (some ⟨tb,1,none⟩),.int .i64 id],[]⟩ (.inRegion aW (Region.linearise.go .any aW 1 t #[true,true,true,true,true,true,true,true,false] [])::kk)) cs) w)(t:Nat):LoneTo Tryz.prog Q (G ((base 37).at ⟨#[.pointer (some ⟨pb,0,none⟩),.pointer (some ⟨tb,0,none⟩),u2,u3,u4,u5,u6,u7,u8,u9,u10,u11,u12,u13,u14,u15,u16,u17,u18,u19,u20,u21,u22,.pointer (some ⟨pb,0,none⟩),.pointer (some ⟨pb,0,none⟩),.pointer (some ⟨pb,0,none⟩),.chan (some cb),.pointer (some ⟨tb,0,none⟩),.pointer (some ⟨tb,0,none⟩),undef,undef],[]⟩ (.inRegion aW (Region.linearise.go .any aW 3 t #[true,true,true,true,true,true,false,false,false] [])::kk)) cs) w:=by
 obtain⟨i,hi,c,e⟩:=gt (md:=.any) (ops:=aW) (fuel:=2) (t:=t) (listed:= #[true,true,true,true,true,true,false,false,false]) (rs:= [6]) (by kernel_rfl) (by simp);rw[e];rw[au.1 hi];refine LoneTo.goes (n:=1) ?_;simp only[aW,Tryz.f37];s_op
 s_stop
 exact Wc d b a c
theorem Wh(d:w.cell? ⟨pb,0,none⟩=some (.chan (some cb)))(b:w.cell? ⟨tb,1,none⟩=some (.int .i64 id))(a:∀t,LoneTo Tryz.prog Q (G ((base 37).at ⟨#[.pointer (some ⟨pb,0,none⟩),.pointer (some ⟨tb,0,none⟩),u2,u3,u4,u5,u6,u7,u8,u9,u10,u11,u12,u13,u14,u15,u16,u17,u18,u19,u20,u21,u22,.pointer (some ⟨pb,0,none⟩),.pointer (some ⟨pb,0,none⟩),.pointer (some ⟨pb,0,none⟩),.chan (some cb),.pointer (some ⟨tb,0,none⟩),.pointer (some ⟨tb,0,none⟩),.pointer (some ⟨tb,1,none⟩),.int .i64 id],[]⟩ (.inRegion aW (Region.linearise.go .any aW 1 t #[true,true,true,true,true,true,true,true,false] [])::kk)) cs) w)(t:Nat):LoneTo Tryz.prog Q (G ((base 37).at ⟨#[.pointer (some ⟨pb,0,none⟩),.pointer (some ⟨tb,0,none⟩),u2,u3,u4,u5,u6,u7,u8,u9,u10,u11,u12,u13,u14,u15,u16,u17,u18,u19,u20,u21,u22,.pointer (some ⟨pb,0,none⟩),.pointer (some ⟨pb,0,none⟩),.pointer (some ⟨pb,0,none⟩),undef,.pointer (some ⟨tb,0,none⟩),.pointer (some ⟨tb,0,none⟩),.pointer (some ⟨tb,1,none⟩),undef],[]⟩ (.inRegion aW (Region.linearise.go .any aW 3 t #[true,true,true,false,true,true,true,false,false] [])::kk)) cs) w:=by
 obtain⟨i,hi,c,e⟩:=gt (md:=.any) (ops:=aW) (fuel:=2) (t:=t) (listed:= #[true,true,true,false,true,true,true,false,false]) (rs:= [3,7]) (by kernel_rfl) (by simp);rw[e];rcases aB.1 hi with rfl|hi
 ·skip
  refine LoneTo.goes (n:=1) ?_;simp only[aW,Tryz.f37];s_op
  s_stop
  exact Wc d b a c
 ·rw[au.1 hi]
  refine LoneTo.goes (n:=1) ?_;simp only[aW,Tryz.f37];s_op
  s_stop
  exact Wg d b a c
theorem Wl(d:w.cell? ⟨pb,0,none⟩=some (.chan (some cb)))(b:w.cell? ⟨tb,1,none⟩=some (.int .i64 id))(a:∀t,LoneTo Tryz.prog Q (G ((base 37).at ⟨#[.pointer (some ⟨pb,0,none⟩),.pointer (some ⟨tb,0,none⟩),u2,u3,u4,u5,u6,u7,u8,u9,u10,u11,u12,u13,u14,u15,u16,u17,u18,u19,u20,u21,u22,.pointer (some ⟨pb,0,none⟩),.pointer (some ⟨pb,0,none⟩),.pointer (some ⟨pb,0,none⟩),.chan (some cb),.pointer (some ⟨tb,0,none⟩),.pointer (some ⟨tb,0,none⟩),.pointer (some ⟨tb,1,none⟩),.int .i64 id],[]⟩ (.inRegion aW (Region.linearise.go .any aW 1 t #[true,true,true,true,true,true,true,true,false] [])::kk)) cs) w)(t:Nat):LoneTo Tryz.prog Q (G ((base 37).at ⟨#[.pointer (some ⟨pb,0,none⟩),.pointer (some ⟨tb,0,none⟩),u2,u3,u4,u5,u6,u7,u8,u9,u10,u11,u12,u13,u14,u15,u16,u17,u18,u19,u20,u21,u22,.pointer (some ⟨pb,0,none⟩),.pointer (some ⟨pb,0,none⟩),undef,undef,.pointer (some ⟨tb,0,none⟩),.pointer (some ⟨tb,0,none⟩),.pointer (some ⟨tb,1,none⟩),.int .i64 id],[]⟩ (.inRegion aW (Region.linearise.go .any aW 3 t #[true,true,false,false,true,true,true,true,false] [])::kk)) cs) w:=by
 obtain⟨i,hi,c,e⟩:=gt (md:=.any) (ops:=aW) (fuel:=2) (t:=t) (listed:= #[true,true,false,false,true,true,true,true,false]) (rs:= [2]) (by kernel_rfl) (by simp);rw[e];rw[au.1 hi];refine LoneTo.goes (n:=1) ?_;simp only[aW,Tryz.f37];s_op
 s_stop
 exact Wg d b a c
theorem Wf(d:w.cell? ⟨pb,0,none⟩=some (.chan (some cb)))(b:w.cell? ⟨tb,1,none⟩=some (.int .i64 id))(a:∀t,LoneTo Tryz.prog Q (G ((base 37).at ⟨#[.pointer (some ⟨pb,0,none⟩),.pointer (some ⟨tb,0,none⟩),u2,u3,u4,u5,u6,u7,u8,u9,u10,u11,u12,u13,u14,u15,u16,u17,u18,u19,u20,u21,u22,.pointer (some ⟨pb,0,none⟩),.pointer (some ⟨pb,0,none⟩),.pointer (some ⟨pb,0,none⟩),.chan (some cb),.pointer (some ⟨tb,0,none⟩),.pointer (some ⟨tb,0,none⟩),.pointer (some ⟨tb,1,none⟩),.int .i64 id],[]⟩ (.inRegion aW (Region.linearise.go .any aW 1 t #[true,true,true,true,true,true,true,true,false] [])::kk)) cs) w)(t:Nat):LoneTo Tryz.prog Q (G ((base 37).at ⟨#[.pointer (some ⟨pb,0,none⟩),.pointer (some ⟨tb,0,none⟩),u2,u3,u4,u5,u6,u7,u8,u9,u10,u11,u12,u13,u14,u15,u16,u17,u18,u19,u20,u21,u22,.pointer (some ⟨pb,0,none⟩),.pointer (some ⟨pb,0,none⟩),.pointer (some ⟨pb,0,none⟩),.chan (some cb),.pointer (some ⟨tb,0,none⟩),undef,undef,undef],[]⟩ (.inRegion aW (Region.linearise.go .any aW 4 t #[true,true,true,true,true,false,false,false,false] [])::kk)) cs) w:=by
 obtain⟨i,hi,c,e⟩:=gt (md:=.any) (ops:=aW) (fuel:=3) (t:=t) (listed:= #[true,true,true,true,true,false,false,false,false]) (rs:= [5]) (by kernel_rfl) (by simp);rw[e];rw[au.1 hi];refine LoneTo.goes (n:=1) ?_;simp only[aW,Tryz.f37];s_op
 s_stop
 exact We d b a c
theorem Wi(d:w.cell? ⟨pb,0,none⟩=some (.chan (some cb)))(b:w.cell? ⟨tb,1,none⟩=some (.int .i64 id))(a:∀t,LoneTo Tryz.prog Q (G ((base 37).at ⟨#[.pointer (some ⟨pb,0,none⟩),.pointer (some ⟨tb,0,none⟩),u2,u3,u4,u5,u6,u7,u8,u9,u10,u11,u12,u13,u14,u15,u16,u17,u18,u19,u20,u21,u22,.pointer (some ⟨pb,0,none⟩),.pointer (some ⟨pb,0,none⟩),.pointer (some ⟨pb,0,none⟩),.chan (some cb),.pointer (some ⟨tb,0,none⟩),.pointer (some ⟨tb,0,none⟩),.pointer (some ⟨tb,1,none⟩),.int .i64 id],[]⟩ (.inRegion aW (Region.linearise.go .any aW 1 t #[true,true,true,true,true,true,true,true,false] [])::kk)) cs) w)(t:Nat):LoneTo Tryz.prog Q (G ((base 37).at ⟨#[.pointer (some ⟨pb,0,none⟩),.pointer (some ⟨tb,0,none⟩),u2,u3,u4,u5,u6,u7,u8,u9,u10,u11,u12,u13,u14,u15,u16,u17,u18,u19,u20,u21,u22,.pointer (some ⟨pb,0,none⟩),.pointer (some ⟨pb,0,none⟩),.pointer (some ⟨pb,0,none⟩),undef,.pointer (some ⟨tb,0,none⟩),.pointer (some ⟨tb,0,none⟩),undef,undef],[]⟩ (.inRegion aW (Region.linearise.go .any aW 4 t #[true,true,true,false,true,true,false,false,false] [])::kk)) cs) w:=by
 obtain⟨i,hi,c,e⟩:=gt (md:=.any) (ops:=aW) (fuel:=3) (t:=t) (listed:= #[true,true,true,false,true,true,false,false,false]) (rs:= [3,6]) (by kernel_rfl) (by simp);rw[e];rcases aB.1 hi with rfl|hi
 ·skip
  refine LoneTo.goes (n:=1) ?_;simp only[aW,Tryz.f37];s_op
  s_stop
  exact We d b a c
 ·rw[au.1 hi]
  refine LoneTo.goes (n:=1) ?_;simp only[aW,Tryz.f37];s_op
  s_stop
  exact Wh d b a c
theorem Wm(d:w.cell? ⟨pb,0,none⟩=some (.chan (some cb)))(b:w.cell? ⟨tb,1,none⟩=some (.int .i64 id))(a:∀t,LoneTo Tryz.prog Q (G ((base 37).at ⟨#[.pointer (some ⟨pb,0,none⟩),.pointer (some ⟨tb,0,none⟩),u2,u3,u4,u5,u6,u7,u8,u9,u10,u11,u12,u13,u14,u15,u16,u17,u18,u19,u20,u21,u22,.pointer (some ⟨pb,0,none⟩),.pointer (some ⟨pb,0,none⟩),.pointer (some ⟨pb,0,none⟩),.chan (some cb),.pointer (some ⟨tb,0,none⟩),.pointer (some ⟨tb,0,none⟩),.pointer (some ⟨tb,1,none⟩),.int .i64 id],[]⟩ (.inRegion aW (Region.linearise.go .any aW 1 t #[true,true,true,true,true,true,true,true,false] [])::kk)) cs) w)(t:Nat):LoneTo Tryz.prog Q (G ((base 37).at ⟨#[.pointer (some ⟨pb,0,none⟩),.pointer (some ⟨tb,0,none⟩),u2,u3,u4,u5,u6,u7,u8,u9,u10,u11,u12,u13,u14,u15,u16,u17,u18,u19,u20,u21,u22,.pointer (some ⟨pb,0,none⟩),.pointer (some ⟨pb,0,none⟩),undef,undef,.pointer (some ⟨tb,0,none⟩),.pointer (some ⟨tb,0,none⟩),.pointer (some ⟨tb,1,none⟩),undef],[]⟩ (.inRegion aW (Region.linearise.go .any aW 4 t #[true,true,false,false,true,true,true,false,false] [])::kk)) cs) w:=by
 obtain⟨i,hi,c,e⟩:=gt (md:=.any) (ops:=aW) (fuel:=3) (t:=t) (listed:= #[true,true,false,false,true,true,true,false,false]) (rs:= [2,7]) (by kernel_rfl) (by simp);rw[e];rcases aB.1 hi with rfl|hi
 ·skip
  refine LoneTo.goes (n:=1) ?_;simp only[aW,Tryz.f37];s_op
  s_stop
  exact Wh d b a c
 ·rw[au.1 hi]
  refine LoneTo.goes (n:=1) ?_;simp only[aW,Tryz.f37];s_op
  s_stop
  exact Wl d b a c
theorem Wq(d:w.cell? ⟨pb,0,none⟩=some (.chan (some cb)))(b:w.cell? ⟨tb,1,none⟩=some (.int .i64 id))(a:∀t,LoneTo Tryz.prog Q (G ((base 37).at ⟨#[.pointer (some ⟨pb,0,none⟩),.pointer (some ⟨tb,0,none⟩),u2,u3,u4,u5,u6,u7,u8,u9,u10,u11,u12,u13,u14,u15,u16,u17,u18,u19,u20,u21,u22,.pointer (some ⟨pb,0,none⟩),.pointer (some ⟨pb,0,none⟩),.pointer (some ⟨pb,0,none⟩),.chan (some cb),.pointer (some ⟨tb,0,none⟩),.pointer (some ⟨tb,0,none⟩),.pointer (some ⟨tb,1,none⟩),.int .i64 id],[]⟩ (.inRegion aW (Region.linearise.go .any aW 1 t #[true,true,true,true,true,true,true,true,false] [])::kk)) cs) w)(t:Nat):LoneTo Tryz.prog Q (G ((base 37).at ⟨#[.pointer (some ⟨pb,0,none⟩),.pointer (some ⟨tb,0,none⟩),u2,u3,u4,u5,u6,u7,u8,u9,u10,u11,u12,u13,u14,u15,u16,u17,u18,u19,u20,u21,u22,.pointer (some ⟨pb,0,none⟩),undef,undef,undef,.pointer (some ⟨tb,0,none⟩),.pointer (some ⟨tb,0,none⟩),.pointer (some ⟨tb,1,none⟩),.int .i64 id],[]⟩ (.inRegion aW (Region.linearise.go .any aW 4 t #[true,false,false,false,true,true,true,true,false] [])::kk)) cs) w:=by
 obtain⟨i,hi,c,e⟩:=gt (md:=.any) (ops:=aW) (fuel:=3) (t:=t) (listed:= #[true,false,false,false,true,true,true,true,false]) (rs:= [1]) (by kernel_rfl) (by simp);rw[e];rw[au.1 hi];refine LoneTo.goes (n:=1) ?_;simp only[aW,Tryz.f37];s_op
 s_stop
 exact Wl d b a c
theorem ZU(d:w.cell? ⟨pb,0,none⟩=some (.chan (some cb)))(b:w.cell? ⟨tb,1,none⟩=some (.int .i64 id))(a:∀t,LoneTo Tryz.prog Q (G ((base 37).at ⟨#[.pointer (some ⟨pb,0,none⟩),.pointer (some ⟨tb,0,none⟩),u2,u3,u4,u5,u6,u7,u8,u9,u10,u11,u12,u13,u14,u15,u16,u17,u18,u19,u20,u21,u22,.pointer (some ⟨pb,0,none⟩),.pointer (some ⟨pb,0,none⟩),.pointer (some ⟨pb,0,none⟩),.chan (some cb),.pointer (some ⟨tb,0,none⟩),.pointer (some ⟨tb,0,none⟩),.pointer (some ⟨tb,1,none⟩),.int .i64 id],[]⟩ (.inRegion aW (Region.linearise.go .any aW 1 t #[true,true,true,true,true,true,true,true,false] [])::kk)) cs) w)(t:Nat):LoneTo Tryz.prog Q (G ((base 37).at ⟨#[.pointer (some ⟨pb,0,none⟩),.pointer (some ⟨tb,0,none⟩),u2,u3,u4,u5,u6,u7,u8,u9,u10,u11,u12,u13,u14,u15,u16,u17,u18,u19,u20,u21,u22,.pointer (some ⟨pb,0,none⟩),.pointer (some ⟨pb,0,none⟩),.pointer (some ⟨pb,0,none⟩),.chan (some cb),undef,undef,undef,undef],[]⟩ (.inRegion aW (Region.linearise.go .any aW 5 t #[true,true,true,true,false,false,false,false,false] [])::kk)) cs) w:=by
 obtain⟨i,hi,c,e⟩:=gt (md:=.any) (ops:=aW) (fuel:=4) (t:=t) (listed:= #[true,true,true,true,false,false,false,false,false]) (rs:= [4]) (by kernel_rfl) (by simp);rw[e];rw[au.1 hi];refine LoneTo.goes (n:=1) ?_;simp only[aW,Tryz.f37];s_op
 s_stop
 exact Wf d b a c
theorem Wj(d:w.cell? ⟨pb,0,none⟩=some (.chan (some cb)))(b:w.cell? ⟨tb,1,none⟩=some (.int .i64 id))(a:∀t,LoneTo Tryz.prog Q (G ((base 37).at ⟨#[.pointer (some ⟨pb,0,none⟩),.pointer (some ⟨tb,0,none⟩),u2,u3,u4,u5,u6,u7,u8,u9,u10,u11,u12,u13,u14,u15,u16,u17,u18,u19,u20,u21,u22,.pointer (some ⟨pb,0,none⟩),.pointer (some ⟨pb,0,none⟩),.pointer (some ⟨pb,0,none⟩),.chan (some cb),.pointer (some ⟨tb,0,none⟩),.pointer (some ⟨tb,0,none⟩),.pointer (some ⟨tb,1,none⟩),.int .i64 id],[]⟩ (.inRegion aW (Region.linearise.go .any aW 1 t #[true,true,true,true,true,true,true,true,false] [])::kk)) cs) w)(t:Nat):LoneTo Tryz.prog Q (G ((base 37).at ⟨#[.pointer (some ⟨pb,0,none⟩),.pointer (some ⟨tb,0,none⟩),u2,u3,u4,u5,u6,u7,u8,u9,u10,u11,u12,u13,u14,u15,u16,u17,u18,u19,u20,u21,u22,.pointer (some ⟨pb,0,none⟩),.pointer (some ⟨pb,0,none⟩),.pointer (some ⟨pb,0,none⟩),undef,.pointer (some ⟨tb,0,none⟩),undef,undef,undef],[]⟩ (.inRegion aW (Region.linearise.go .any aW 5 t #[true,true,true,false,true,false,false,false,false] [])::kk)) cs) w:=by
 obtain⟨i,hi,c,e⟩:=gt (md:=.any) (ops:=aW) (fuel:=4) (t:=t) (listed:= #[true,true,true,false,true,false,false,false,false]) (rs:= [3,5]) (by kernel_rfl) (by simp);rw[e];rcases aB.1 hi with rfl|hi
 ·skip
  refine LoneTo.goes (n:=1) ?_;simp only[aW,Tryz.f37];s_op
  s_stop
  exact Wf d b a c
 ·rw[au.1 hi]
  refine LoneTo.goes (n:=1) ?_;simp only[aW,Tryz.f37];s_op
  s_stop
  exact Wi d b a c
theorem Wn(d:w.cell? ⟨pb,0,none⟩=some (.chan (some cb)))(b:w.cell? ⟨tb,1,none⟩=some (.int .i64 id))(a:∀t,LoneTo Tryz.prog Q (G ((base 37).at ⟨#[.pointer (some ⟨pb,0,none⟩),.pointer (some ⟨tb,0,none⟩),u2,u3,u4,u5,u6,u7,u8,u9,u10,u11,u12,u13,u14,u15,u16,u17,u18,u19,u20,u21,u22,.pointer (some ⟨pb,0,none⟩),.pointer (some ⟨pb,0,none⟩),.pointer (some ⟨pb,0,none⟩),.chan (some cb),.pointer (some ⟨tb,0,none⟩),.pointer (some ⟨tb,0,none⟩),.pointer (some ⟨tb,1,none⟩),.int .i64 id],[]⟩ (.inRegion aW (Region.linearise.go .any aW 1 t #[true,true,true,true,true,true,true,true,false] [])::kk)) cs) w)(t:Nat):LoneTo Tryz.prog Q (G ((base 37).at ⟨#[.pointer (some ⟨pb,0,none⟩),.pointer (some ⟨tb,0,none⟩),u2,u3,u4,u5,u6,u7,u8,u9,u10,u11,u12,u13,u14,u15,u16,u17,u18,u19,u20,u21,u22,.pointer (some ⟨pb,0,none⟩),.pointer (some ⟨pb,0,none⟩),undef,undef,.pointer (some ⟨tb,0,none⟩),.pointer (some ⟨tb,0,none⟩),undef,undef],[]⟩ (.inRegion aW (Region.linearise.go .any aW 5 t #[true,true,false,false,true,true,false,false,false] [])::kk)) cs) w:=by
 obtain⟨i,hi,c,e⟩:=gt (md:=.any) (ops:=aW) (fuel:=4) (t:=t) (listed:= #[true,true,false,false,true,true,false,false,false]) (rs:= [2,6]) (by kernel_rfl) (by simp);rw[e];rcases aB.1 hi with rfl|hi
 ·skip
  refine LoneTo.goes (n:=1) ?_;simp only[aW,Tryz.f37];s_op
  s_stop
  exact Wi d b a c
 ·rw[au.1 hi]
  refine LoneTo.goes (n:=1) ?_;simp only[aW,Tryz.f37];s_op
  s_stop
  exact Wm d b a c
theorem Wt(d:w.cell? ⟨pb,0,none⟩=some (.chan (some cb)))(b:w.cell? ⟨tb,1,none⟩=some (.int .i64 id))(a:∀t,LoneTo Tryz.prog Q (G ((base 37).at ⟨#[.pointer (some ⟨pb,0,none⟩),.pointer (some ⟨tb,0,none⟩),u2,u3,u4,u5,u6,u7,u8,u9,u10,u11,u12,u13,u14,u15,u16,u17,u18,u19,u20,u21,u22,.pointer (some ⟨pb,0,none⟩),.pointer (some ⟨pb,0,none⟩),.pointer (some ⟨pb,0,none⟩),.chan (some cb),.pointer (some ⟨tb,0,none⟩),.pointer (some ⟨tb,0,none⟩),.pointer (some ⟨tb,1,none⟩),.int .i64 id],[]⟩ (.inRegion aW (Region.linearise.go .any aW 1 t #[true,true,true,true,true,true,true,true,false] [])::kk)) cs) w)(t:Nat):LoneTo Tryz.prog Q (G ((base 37).at ⟨#[.pointer (some ⟨pb,0,none⟩),.pointer (some ⟨tb,0,none⟩),u2,u3,u4,u5,u6,u7,u8,u9,u10,u11,u12,u13,u14,u15,u16,u17,u18,u19,u20,u21,u22,.pointer (some ⟨pb,0,none⟩),undef,undef,undef,.pointer (some ⟨tb,0,none⟩),.pointer (some ⟨tb,0,none⟩),.pointer (some ⟨tb,1,none⟩),undef],[]⟩ (.inRegion aW (Region.linearise.go .any aW 5 t #[true,false,false,false,true,true,true,false,false] [])::kk)) cs) w:=by
 obtain⟨i,hi,c,e⟩:=gt (md:=.any) (ops:=aW) (fuel:=4) (t:=t) (listed:= #[true,false,false,false,true,true,true,false,false]) (rs:= [1,7]) (by kernel_rfl) (by simp);rw[e];rcases aB.1 hi with rfl|hi
 ·skip
  refine LoneTo.goes (n:=1) ?_;simp only[aW,Tryz.f37];s_op
  s_stop
  exact Wm d b a c
 ·rw[au.1 hi]
  refine LoneTo.goes (n:=1) ?_;simp only[aW,Tryz.f37];s_op
  s_stop
  exact Wq d b a c
theorem ZY(d:w.cell? ⟨pb,0,none⟩=some (.chan (some cb)))(b:w.cell? ⟨tb,1,none⟩=some (.int .i64 id))(a:∀t,LoneTo Tryz.prog Q (G ((base 37).at ⟨#[.pointer (some ⟨pb,0,none⟩),.pointer (some ⟨tb,0,none⟩),u2,u3,u4,u5,u6,u7,u8,u9,u10,u11,u12,u13,u14,u15,u16,u17,u18,u19,u20,u21,u22,.pointer (some ⟨pb,0,none⟩),.pointer (some ⟨pb,0,none⟩),.pointer (some ⟨pb,0,none⟩),.chan (some cb),.pointer (some ⟨tb,0,none⟩),.pointer (some ⟨tb,0,none⟩),.pointer (some ⟨tb,1,none⟩),.int .i64 id],[]⟩ (.inRegion aW (Region.linearise.go .any aW 1 t #[true,true,true,true,true,true,true,true,false] [])::kk)) cs) w)(t:Nat):LoneTo Tryz.prog Q (G ((base 37).at ⟨#[.pointer (some ⟨pb,0,none⟩),.pointer (some ⟨tb,0,none⟩),u2,u3,u4,u5,u6,u7,u8,u9,u10,u11,u12,u13,u14,u15,u16,u17,u18,u19,u20,u21,u22,undef,undef,undef,undef,.pointer (some ⟨tb,0,none⟩),.pointer (some ⟨tb,0,none⟩),.pointer (some ⟨tb,1,none⟩),.int .i64 id],[]⟩ (.inRegion aW (Region.linearise.go .any aW 5 t #[false,false,false,false,true,true,true,true,false] [])::kk)) cs) w:=by
 obtain⟨i,hi,c,e⟩:=gt (md:=.any) (ops:=aW) (fuel:=4) (t:=t) (listed:= #[false,false,false,false,true,true,true,true,false]) (rs:= [0]) (by kernel_rfl) (by simp);rw[e];rw[au.1 hi];refine LoneTo.goes (n:=1) ?_;simp only[aW,Tryz.f37];s_op
 s_stop
 exact Wq d b a c
theorem ZV(d:w.cell? ⟨pb,0,none⟩=some (.chan (some cb)))(b:w.cell? ⟨tb,1,none⟩=some (.int .i64 id))(a:∀t,LoneTo Tryz.prog Q (G ((base 37).at ⟨#[.pointer (some ⟨pb,0,none⟩),.pointer (some ⟨tb,0,none⟩),u2,u3,u4,u5,u6,u7,u8,u9,u10,u11,u12,u13,u14,u15,u16,u17,u18,u19,u20,u21,u22,.pointer (some ⟨pb,0,none⟩),.pointer (some ⟨pb,0,none⟩),.pointer (some ⟨pb,0,none⟩),.chan (some cb),.pointer (some ⟨tb,0,none⟩),.pointer (some ⟨tb,0,none⟩),.pointer (some ⟨tb,1,none⟩),.int .i64 id],[]⟩ (.inRegion aW (Region.linearise.go .any aW 1 t #[true,true,true,true,true,true,true,true,false] [])::kk)) cs) w)(t:Nat):LoneTo Tryz.prog Q (G ((base 37).at ⟨#[.pointer (some ⟨pb,0,none⟩),.pointer (some ⟨tb,0,none⟩),u2,u3,u4,u5,u6,u7,u8,u9,u10,u11,u12,u13,u14,u15,u16,u17,u18,u19,u20,u21,u22,.pointer (some ⟨pb,0,none⟩),.pointer (some ⟨pb,0,none⟩),.pointer (some ⟨pb,0,none⟩),undef,undef,undef,undef,undef],[]⟩ (.inRegion aW (Region.linearise.go .any aW 6 t #[true,true,true,false,false,false,false,false,false] [])::kk)) cs) w:=by
 obtain⟨i,hi,c,e⟩:=gt (md:=.any) (ops:=aW) (fuel:=5) (t:=t) (listed:= #[true,true,true,false,false,false,false,false,false]) (rs:= [3,4]) (by kernel_rfl) (by simp);rw[e];rcases aB.1 hi with rfl|hi
 ·skip
  refine LoneTo.goes (n:=1) ?_;simp only[aW,Tryz.f37];s_op
  s_stop
  exact ZU d b a c
 ·rw[au.1 hi]
  refine LoneTo.goes (n:=1) ?_;simp only[aW,Tryz.f37];s_op
  s_stop
  exact Wj d b a c
theorem Wp(d:w.cell? ⟨pb,0,none⟩=some (.chan (some cb)))(b:w.cell? ⟨tb,1,none⟩=some (.int .i64 id))(a:∀t,LoneTo Tryz.prog Q (G ((base 37).at ⟨#[.pointer (some ⟨pb,0,none⟩),.pointer (some ⟨tb,0,none⟩),u2,u3,u4,u5,u6,u7,u8,u9,u10,u11,u12,u13,u14,u15,u16,u17,u18,u19,u20,u21,u22,.pointer (some ⟨pb,0,none⟩),.pointer (some ⟨pb,0,none⟩),.pointer (some ⟨pb,0,none⟩),.chan (some cb),.pointer (some ⟨tb,0,none⟩),.pointer (some ⟨tb,0,none⟩),.pointer (some ⟨tb,1,none⟩),.int .i64 id],[]⟩ (.inRegion aW (Region.linearise.go .any aW 1 t #[true,true,true,true,true,true,true,true,false] [])::kk)) cs) w)(t:Nat):LoneTo Tryz.prog Q (G ((base 37).at ⟨#[.pointer (some ⟨pb,0,none⟩),.pointer (some ⟨tb,0,none⟩),u2,u3,u4,u5,u6,u7,u8,u9,u10,u11,u12,u13,u14,u15,u16,u17,u18,u19,u20,u21,u22,.pointer (some ⟨pb,0,none⟩),.pointer (some ⟨pb,0,none⟩),undef,undef,.pointer (some ⟨tb,0,none⟩),undef,undef,undef],[]⟩ (.inRegion aW (Region.linearise.go .any aW 6 t #[true,true,false,false,true,false,false,false,false] [])::kk)) cs) w:=by
 obtain⟨i,hi,c,e⟩:=gt (md:=.any) (ops:=aW) (fuel:=5) (t:=t) (listed:= #[true,true,false,false,true,false,false,false,false]) (rs:= [2,5]) (by kernel_rfl) (by simp);rw[e];rcases aB.1 hi with rfl|hi
 ·skip
  refine LoneTo.goes (n:=1) ?_;simp only[aW,Tryz.f37];s_op
  s_stop
  exact Wj d b a c
 ·rw[au.1 hi]
  refine LoneTo.goes (n:=1) ?_;simp only[aW,Tryz.f37];s_op
  s_stop
  exact Wn d b a c
theorem Ww(d:w.cell? ⟨pb,0,none⟩=some (.chan (some cb)))(b:w.cell? ⟨tb,1,none⟩=some (.int .i64 id))(a:∀t,LoneTo Tryz.prog Q (G ((base 37).at ⟨#[.pointer (some ⟨pb,0,none⟩),.pointer (some ⟨tb,0,none⟩),u2,u3,u4,u5,u6,u7,u8,u9,u10,u11,u12,u13,u14,u15,u16,u17,u18,u19,u20,u21,u22,.pointer (some ⟨pb,0,none⟩),.pointer (some ⟨pb,0,none⟩),.pointer (some ⟨pb,0,none⟩),.chan (some cb),.pointer (some ⟨tb,0,none⟩),.pointer (some ⟨tb,0,none⟩),.pointer (some ⟨tb,1,none⟩),.int .i64 id],[]⟩ (.inRegion aW (Region.linearise.go .any aW 1 t #[true,true,true,true,true,true,true,true,false] [])::kk)) cs) w)(t:Nat):LoneTo Tryz.prog Q (G ((base 37).at ⟨#[.pointer (some ⟨pb,0,none⟩),.pointer (some ⟨tb,0,none⟩),u2,u3,u4,u5,u6,u7,u8,u9,u10,u11,u12,u13,u14,u15,u16,u17,u18,u19,u20,u21,u22,.pointer (some ⟨pb,0,none⟩),undef,undef,undef,.pointer (some ⟨tb,0,none⟩),.pointer (some ⟨tb,0,none⟩),undef,undef],[]⟩ (.inRegion aW (Region.linearise.go .any aW 6 t #[true,false,false,false,true,true,false,false,false] [])::kk)) cs) w:=by
 obtain⟨i,hi,c,e⟩:=gt (md:=.any) (ops:=aW) (fuel:=5) (t:=t) (listed:= #[true,false,false,false,true,true,false,false,false]) (rs:= [1,6]) (by kernel_rfl) (by simp);rw[e];rcases aB.1 hi with rfl|hi
 ·skip
  refine LoneTo.goes (n:=1) ?_;simp only[aW,Tryz.f37];s_op
  s_stop
  exact Wn d b a c
 ·rw[au.1 hi]
  refine LoneTo.goes (n:=1) ?_;simp only[aW,Tryz.f37];s_op
  s_stop
  exact Wt d b a c
theorem ZZ(d:w.cell? ⟨pb,0,none⟩=some (.chan (some cb)))(b:w.cell? ⟨tb,1,none⟩=some (.int .i64 id))(a:∀t,LoneTo Tryz.prog Q (G ((base 37).at ⟨#[.pointer (some ⟨pb,0,none⟩),.pointer (some ⟨tb,0,none⟩),u2,u3,u4,u5,u6,u7,u8,u9,u10,u11,u12,u13,u14,u15,u16,u17,u18,u19,u20,u21,u22,.pointer (some ⟨pb,0,none⟩),.pointer (some ⟨pb,0,none⟩),.pointer (some ⟨pb,0,none⟩),.chan (some cb),.pointer (some ⟨tb,0,none⟩),.pointer (some ⟨tb,0,none⟩),.pointer (some ⟨tb,1,none⟩),.int .i64 id],[]⟩ (.inRegion aW (Region.linearise.go .any aW 1 t #[true,true,true,true,true,true,true,true,false] [])::kk)) cs) w)(t:Nat):LoneTo Tryz.prog Q (G ((base 37).at ⟨#[.pointer (some ⟨pb,0,none⟩),.pointer (some ⟨tb,0,none⟩),u2,u3,u4,u5,u6,u7,u8,u9,u10,u11,u12,u13,u14,u15,u16,u17,u18,u19,u20,u21,u22,undef,undef,undef,undef,.pointer (some ⟨tb,0,none⟩),.pointer (some ⟨tb,0,none⟩),.pointer (some ⟨tb,1,none⟩),undef],[]⟩ (.inRegion aW (Region.linearise.go .any aW 6 t #[false,false,false,false,true,true,true,false,false] [])::kk)) cs) w:=by
 obtain⟨i,hi,c,e⟩:=gt (md:=.any) (ops:=aW) (fuel:=5) (t:=t) (listed:= #[false,false,false,false,true,true,true,false,false]) (rs:= [0,7]) (by kernel_rfl) (by simp);rw[e];rcases aB.1 hi with rfl|hi
 ·skip
  refine LoneTo.goes (n:=1) ?_;simp only[aW,Tryz.f37];s_op
  s_stop
  exact Wt d b a c
 ·rw[au.1 hi]
  refine LoneTo.goes (n:=1) ?_;simp only[aW,Tryz.f37];s_op
  s_stop
  exact ZY d b a c
theorem ZW(d:w.cell? ⟨pb,0,none⟩=some (.chan (some cb)))(b:w.cell? ⟨tb,1,none⟩=some (.int .i64 id))(a:∀t,LoneTo Tryz.prog Q (G ((base 37).at ⟨#[.pointer (some ⟨pb,0,none⟩),.pointer (some ⟨tb,0,none⟩),u2,u3,u4,u5,u6,u7,u8,u9,u10,u11,u12,u13,u14,u15,u16,u17,u18,u19,u20,u21,u22,.pointer (some ⟨pb,0,none⟩),.pointer (some ⟨pb,0,none⟩),.pointer (some ⟨pb,0,none⟩),.chan (some cb),.pointer (some ⟨tb,0,none⟩),.pointer (some ⟨tb,0,none⟩),.pointer (some ⟨tb,1,none⟩),.int .i64 id],[]⟩ (.inRegion aW (Region.linearise.go .any aW 1 t #[true,true,true,true,true,true,true,true,false] [])::kk)) cs) w)(t:Nat):LoneTo Tryz.prog Q (G ((base 37).at ⟨#[.pointer (some ⟨pb,0,none⟩),.pointer (some ⟨tb,0,none⟩),u2,u3,u4,u5,u6,u7,u8,u9,u10,u11,u12,u13,u14,u15,u16,u17,u18,u19,u20,u21,u22,.pointer (some ⟨pb,0,none⟩),.pointer (some ⟨pb,0,none⟩),undef,undef,undef,undef,undef,undef],[]⟩ (.inRegion aW (Region.linearise.go .any aW 7 t #[true,true,false,false,false,false,false,false,false] [])::kk)) cs) w:=by
 obtain⟨i,hi,c,e⟩:=gt (md:=.any) (ops:=aW) (fuel:=6) (t:=t) (listed:= #[true,true,false,false,false,false,false,false,false]) (rs:= [2,4]) (by kernel_rfl) (by simp);rw[e];rcases aB.1 hi with rfl|hi
 ·skip
  refine LoneTo.goes (n:=1) ?_;simp only[aW,Tryz.f37];s_op
  s_stop
  exact ZV d b a c
 ·rw[au.1 hi]
  refine LoneTo.goes (n:=1) ?_;simp only[aW,Tryz.f37];s_op
  s_stop
  exact Wp d b a c
theorem Wx(d:w.cell? ⟨pb,0,none⟩=some (.chan (some cb)))(b:w.cell? ⟨tb,1,none⟩=some (.int .i64 id))(a:∀t,LoneTo Tryz.prog Q (G ((base 37).at ⟨#[.pointer (some ⟨pb,0,none⟩),.pointer (some ⟨tb,0,none⟩),u2,u3,u4,u5,u6,u7,u8,u9,u10,u11,u12,u13,u14,u15,u16,u17,u18,u19,u20,u21,u22,.pointer (some ⟨pb,0,none⟩),.pointer (some ⟨pb,0,none⟩),.pointer (some ⟨pb,0,none⟩),.chan (some cb),.pointer (some ⟨tb,0,none⟩),.pointer (some ⟨tb,0,none⟩),.pointer (some ⟨tb,1,none⟩),.int .i64 id],[]⟩ (.inRegion aW (Region.linearise.go .any aW 1 t #[true,true,true,true,true,true,true,true,false] [])::kk)) cs) w)(t:Nat):LoneTo Tryz.prog Q (G ((base 37).at ⟨#[.pointer (some ⟨pb,0,none⟩),.pointer (some ⟨tb,0,none⟩),u2,u3,u4,u5,u6,u7,u8,u9,u10,u11,u12,u13,u14,u15,u16,u17,u18,u19,u20,u21,u22,.pointer (some ⟨pb,0,none⟩),undef,undef,undef,.pointer (some ⟨tb,0,none⟩),undef,undef,undef],[]⟩ (.inRegion aW (Region.linearise.go .any aW 7 t #[true,false,false,false,true,false,false,false,false] [])::kk)) cs) w:=by
 obtain⟨i,hi,c,e⟩:=gt (md:=.any) (ops:=aW) (fuel:=6) (t:=t) (listed:= #[true,false,false,false,true,false,false,false,false]) (rs:= [1,5]) (by kernel_rfl) (by simp);rw[e];rcases aB.1 hi with rfl|hi
 ·skip
  refine LoneTo.goes (n:=1) ?_;simp only[aW,Tryz.f37];s_op
  s_stop
  exact Wp d b a c
 ·rw[au.1 hi]
  refine LoneTo.goes (n:=1) ?_;simp only[aW,Tryz.f37];s_op
  s_stop
  exact Ww d b a c
theorem Z0(d:w.cell? ⟨pb,0,none⟩=some (.chan (some cb)))(b:w.cell? ⟨tb,1,none⟩=some (.int .i64 id))(a:∀t,LoneTo Tryz.prog Q (G ((base 37).at ⟨#[.pointer (some ⟨pb,0,none⟩),.pointer (some ⟨tb,0,none⟩),u2,u3,u4,u5,u6,u7,u8,u9,u10,u11,u12,u13,u14,u15,u16,u17,u18,u19,u20,u21,u22,.pointer (some ⟨pb,0,none⟩),.pointer (some ⟨pb,0,none⟩),.pointer (some ⟨pb,0,none⟩),.chan (some cb),.pointer (some ⟨tb,0,none⟩),.pointer (some ⟨tb,0,none⟩),.pointer (some ⟨tb,1,none⟩),.int .i64 id],[]⟩ (.inRegion aW (Region.linearise.go .any aW 1 t #[true,true,true,true,true,true,true,true,false] [])::kk)) cs) w)(t:Nat):LoneTo Tryz.prog Q (G ((base 37).at ⟨#[.pointer (some ⟨pb,0,none⟩),.pointer (some ⟨tb,0,none⟩),u2,u3,u4,u5,u6,u7,u8,u9,u10,u11,u12,u13,u14,u15,u16,u17,u18,u19,u20,u21,u22,undef,undef,undef,undef,.pointer (some ⟨tb,0,none⟩),.pointer (some ⟨tb,0,none⟩),undef,undef],[]⟩ (.inRegion aW (Region.linearise.go .any aW 7 t #[false,false,false,false,true,true,false,false,false] [])::kk)) cs) w:=by
 obtain⟨i,hi,c,e⟩:=gt (md:=.any) (ops:=aW) (fuel:=6) (t:=t) (listed:= #[false,false,false,false,true,true,false,false,false]) (rs:= [0,6]) (by kernel_rfl) (by simp);rw[e];rcases aB.1 hi with rfl|hi
 ·skip
  refine LoneTo.goes (n:=1) ?_;simp only[aW,Tryz.f37];s_op
  s_stop
  exact Ww d b a c
 ·rw[au.1 hi]
  refine LoneTo.goes (n:=1) ?_;simp only[aW,Tryz.f37];s_op
  s_stop
  exact ZZ d b a c
theorem ZX(d:w.cell? ⟨pb,0,none⟩=some (.chan (some cb)))(b:w.cell? ⟨tb,1,none⟩=some (.int .i64 id))(a:∀t,LoneTo Tryz.prog Q (G ((base 37).at ⟨#[.pointer (some ⟨pb,0,none⟩),.pointer (some ⟨tb,0,none⟩),u2,u3,u4,u5,u6,u7,u8,u9,u10,u11,u12,u13,u14,u15,u16,u17,u18,u19,u20,u21,u22,.pointer (some ⟨pb,0,none⟩),.pointer (some ⟨pb,0,none⟩),.pointer (some ⟨pb,0,none⟩),.chan (some cb),.pointer (some ⟨tb,0,none⟩),.pointer (some ⟨tb,0,none⟩),.pointer (some ⟨tb,1,none⟩),.int .i64 id],[]⟩ (.inRegion aW (Region.linearise.go .any aW 1 t #[true,true,true,true,true,true,true,true,false] [])::kk)) cs) w)(t:Nat):LoneTo Tryz.prog Q (G ((base 37).at ⟨#[.pointer (some ⟨pb,0,none⟩),.pointer (some ⟨tb,0,none⟩),u2,u3,u4,u5,u6,u7,u8,u9,u10,u11,u12,u13,u14,u15,u16,u17,u18,u19,u20,u21,u22,.pointer (some ⟨pb,0,none⟩),undef,undef,undef,undef,undef,undef,undef],[]⟩ (.inRegion aW (Region.linearise.go .any aW 8 t #[true,false,false,false,false,false,false,false,false] [])::kk)) cs) w:=by
 obtain⟨i,hi,c,e⟩:=gt (md:=.any) (ops:=aW) (fuel:=7) (t:=t) (listed:= #[true,false,false,false,false,false,false,false,false]) (rs:= [1,4]) (by kernel_rfl) (by simp);rw[e];rcases aB.1 hi with rfl|hi
 ·skip
  refine LoneTo.goes (n:=1) ?_;simp only[aW,Tryz.f37];s_op
  s_stop
  exact ZW d b a c
 ·rw[au.1 hi]
  refine LoneTo.goes (n:=1) ?_;simp only[aW,Tryz.f37];s_op
  s_stop
  exact Wx d b a c
theorem Z3(d:w.cell? ⟨pb,0,none⟩=some (.chan (some cb)))(b:w.cell? ⟨tb,1,none⟩=some (.int .i64 id))(a:∀t,LoneTo Tryz.prog Q (G ((base 37).at ⟨#[.pointer (some ⟨pb,0,none⟩),.pointer (some ⟨tb,0,none⟩),u2,u3,u4,u5,u6,u7,u8,u9,u10,u11,u12,u13,u14,u15,u16,u17,u18,u19,u20,u21,u22,.pointer (some ⟨pb,0,none⟩),.pointer (some ⟨pb,0,none⟩),.pointer (some ⟨pb,0,none⟩),.chan (some cb),.pointer (some ⟨tb,0,none⟩),.pointer (some ⟨tb,0,none⟩),.pointer (some ⟨tb,1,none⟩),.int .i64 id],[]⟩ (.inRegion aW (Region.linearise.go .any aW 1 t #[true,true,true,true,true,true,true,true,false] [])::kk)) cs) w)(t:Nat):LoneTo Tryz.prog Q (G ((base 37).at ⟨#[.pointer (some ⟨pb,0,none⟩),.pointer (some ⟨tb,0,none⟩),u2,u3,u4,u5,u6,u7,u8,u9,u10,u11,u12,u13,u14,u15,u16,u17,u18,u19,u20,u21,u22,undef,undef,undef,undef,.pointer (some ⟨tb,0,none⟩),undef,undef,undef],[]⟩ (.inRegion aW (Region.linearise.go .any aW 8 t #[false,false,false,false,true,false,false,false,false] [])::kk)) cs) w:=by
 obtain⟨i,hi,c,e⟩:=gt (md:=.any) (ops:=aW) (fuel:=7) (t:=t) (listed:= #[false,false,false,false,true,false,false,false,false]) (rs:= [0,5]) (by kernel_rfl) (by simp);rw[e];rcases aB.1 hi with rfl|hi
 ·skip
  refine LoneTo.goes (n:=1) ?_;simp only[aW,Tryz.f37];s_op
  s_stop
  exact Wx d b a c
 ·rw[au.1 hi]
  refine LoneTo.goes (n:=1) ?_;simp only[aW,Tryz.f37];s_op
  s_stop
  exact Z0 d b a c
theorem Z4(d:w.cell? ⟨pb,0,none⟩=some (.chan (some cb)))(b:w.cell? ⟨tb,1,none⟩=some (.int .i64 id))(a:∀t,LoneTo Tryz.prog Q (G ((base 37).at ⟨#[.pointer (some ⟨pb,0,none⟩),.pointer (some ⟨tb,0,none⟩),u2,u3,u4,u5,u6,u7,u8,u9,u10,u11,u12,u13,u14,u15,u16,u17,u18,u19,u20,u21,u22,.pointer (some ⟨pb,0,none⟩),.pointer (some ⟨pb,0,none⟩),.pointer (some ⟨pb,0,none⟩),.chan (some cb),.pointer (some ⟨tb,0,none⟩),.pointer (some ⟨tb,0,none⟩),.pointer (some ⟨tb,1,none⟩),.int .i64 id],[]⟩ (.inRegion aW (Region.linearise.go .any aW 1 t #[true,true,true,true,true,true,true,true,false] [])::kk)) cs) w)(t:Nat):LoneTo Tryz.prog Q (G ((base 37).at ⟨#[.pointer (some ⟨pb,0,none⟩),.pointer (some ⟨tb,0,none⟩),u2,u3,u4,u5,u6,u7,u8,u9,u10,u11,u12,u13,u14,u15,u16,u17,u18,u19,u20,u21,u22,undef,undef,undef,undef,undef,undef,undef,undef],[]⟩ (.inRegion aW (Region.linearise.go .any aW 9 t #[false,false,false,false,false,false,false,false,false] [])::kk)) cs) w:=by
 obtain⟨i,hi,c,e⟩:=gt (md:=.any) (ops:=aW) (fuel:=8) (t:=t) (listed:= #[false,false,false,false,false,false,false,false,false]) (rs:= [0,4]) (by kernel_rfl) (by simp);rw[e];rcases aB.1 hi with rfl|hi
 ·skip
  refine LoneTo.goes (n:=1) ?_;simp only[aW,Tryz.f37];s_op
  s_stop
  exact ZX d b a c
 ·rw[au.1 hi]
  refine LoneTo.goes (n:=1) ?_;simp only[aW,Tryz.f37];s_op
  s_stop
  exact Z3 d b a c
end
theorem Pw{P:Program}{c:Bool}{b:Frame}{a:Act}{k:List Item}{cs:List Frame}{w:World}{id:Nat}{ops:Array Oper}:stepG P c (G (b.at a (.code (.region id ops true)::k)) cs) w=.go (G (b.at a (.inRegion ops (Region.schedule (P.follows .mixedOrders) ops (w.tape w.drawn (.order b.fn id)))::k)) cs) {w with drawn:=w.drawn+1}:=by
 simp[G,stepG,stepG.exec,Frame.at,choose,Sem.run,Question.forced,Question.cut]
set_option maxRecDepth 100000 in
theorem VN{w:World}{b:Nat}{c:Array Value}{t:TypeId}(g:w.heap[b]? =some (.cells c t (0,0))) (hc:0<c.size):(binOp .neq 39 (.pointer (some ⟨b,0,none⟩)) (.pointer (some ⟨b,0,none⟩))).run Tryz.prog w=.ok (.bool false) w:=by
 have d:Tryz.prog.underlying 39=some (.pointer 130):=by kernel_rfl
 have hz:Nat.beq (cy Tryz.prog 130) 0=false:=by kernel_rfl
 have f:fA w.heap ⟨b,0,none⟩:=⟨c,t,g,hc⟩;have h:Y1 Tryz.prog 39 true (.pointer (some ⟨b,0,none⟩)) (.pointer (some ⟨b,0,none⟩)) (fun v _=>v=.bool false) w.heap:=by
  unfold Y1;rw[d];simp only[];rw[hz];refine⟨trivial,fun x y hx m=>?_,by simp⟩
  cases hx;cases m;exact⟨f,f⟩
 unfold Y1 at h;rw[d]at h;obtain⟨_,a,_⟩:=h;obtain⟨_,_,v,S,j,n,i⟩:=Ev (P:=Tryz.prog) (t:=39) (neg:=true) (x:=.pointer (some ⟨b,0,none⟩)) (y:=.pointer (some ⟨b,0,none⟩)) (K:=fun v S=>v=.bool false∧W8 S w.heap) (h:=w.heap) (by
  unfold Y1
  rw[d]
  simp only[]
  rw[hz]
  exact⟨trivial,a,by simp,a⟩)
 obtain⟨rfl,k⟩:=j;exact i w k
set_option maxRecDepth 100000 in
set_option maxHeartbeats 4000000 in
theorem Wb{w:World}{pb tb cb cap s r:Nat}{id:Int}{buf:Array Value}(m:w.heap[pb]? =some (.cells #[.chan (some cb)] 130 (0,0))) (b:w.heap[tb]? =some (.cells #[.pointer (some ⟨pb,0,none⟩),.int .i64 id,.bool true] 140 (0,0))) (hc:w.heap[cb]? =some (.chan cap buf false s r false)) (o:buf.size<cap) (d:pb≠tb) (j:cb≠tb):
  Calls Tryz.prog 37 #[.pointer (some ⟨pb,0,none⟩),.pointer (some ⟨tb,0,none⟩)] w fun e w'=>e=.returned (.int .i64 0)∧∃n,w'=({w.setCell ⟨tb,2,none⟩ (.bool false)with drawn:=n}:World).setChan cb cap (buf.push (.int .i64 id)) false (s+1) r false:=by
 refine calls_of_loneTo fun cs=>?_
 have e:Frame.enter Tryz.prog 37 #[.pointer (some ⟨pb,0,none⟩),.pointer (some ⟨tb,0,none⟩)] .normal=(base 37).at ⟨#[.pointer (some ⟨pb,0,none⟩),.pointer (some ⟨tb,0,none⟩),undef,undef,undef,undef,undef,undef,undef,undef,undef,undef,undef,undef,undef,undef,undef,undef,undef,undef,undef,undef,undef,undef,undef,undef,undef,undef,undef,undef,undef],[]⟩ [.code (Tryz.f37.body.getD .skip)]:=by
  simp[Frame.enter,Frame.at,Tryz.func37,base,Tryz.f37]
 rw[e];have p:=xU b (i:=0) rfl;have u:=xU b (i:=2) rfl;have v:=TR b (i:=2);have q:=VN m (by simp);refine LoneTo.goes (n:=52) ?_;simp only[Tryz.f37,oo];s_c stepG_seq
 s_reg
 s_op
 s_c stepG_region_end
 s_c stepG_seq
 s_c stepG_seq
 s_reg
 s_op
 s_op
 s_op
 s_op
 s_call Tryz.func79 (by kernel_rfl) Tryz.f79
 s_c stepG_seq
 s_reg
 s_op
 s_c stepG_region_end
 s_c stepG_seq
 s_reg
 s_op
 s_op
 s_op
 s_op
 s_op
 s_op
 s_op
 s_op
 s_op
 s_c stepG_region_end
 s_c stepG_ret'
 s_leave1 Tryz.func79
 s_op
 s_op
 s_op
 s_op
 s_op
 s_op
 s_op
 s_op
 s_op
 s_op
 s_c stepG_region_end
 s_cond false
 s_c stepG_skip
 s_c stepG_seq
 s_reg
 s_op
 s_op
 s_op
 s_op
 s_c stepG_region_end
 s_c stepG_seq
 s_in
 rw[Pw];simp only[goes_go];refine⟨trivial,?_⟩;s_stop
 have hm:Tryz.prog.follows .mixedOrders=true:=Tryz.mixed;simp only[Region.schedule,hm,Bool.true_or,if_true,Region.linearise];have k:=Upd.hset (M:=(· =tb)) w.heap (a:=⟨tb,2,none⟩) (.bool false) rfl
 have g:=k.get m (fun e=>d e)
 have f:=k.get hc (fun e=>j e)
 refine Z4 (pb:=pb) (tb:=tb) (cb:=cb) (id:=id) (xU g (i:=0) rfl) ?_ (fun t=>?_) _
 ·show(w.setCell ⟨tb,2,none⟩ (.bool false)).cell? ⟨tb,1,none⟩=_
  rw[World.cell?_setCell_other _ _ _ _ (by simp)];exact xU b (i:=1) rfl
 ·obtain⟨i,hi,y,e⟩:=gt (md:=.any) (ops:=aW) (fuel:=0) (t:=t) (listed:= #[true,true,true,true,true,true,true,true,false]) (rs:= [8]) (by kernel_rfl) (by simp)
  rw[e,au.1 hi];simp only[aW,Tryz.f37,Region.linearise.go,List.reverse_nil];refine LoneTo.step (step_lone_send_room (c:=cb) (cap:=cap) (buf:=buf) (s:=s) (r:=r) (tm:=false) (stepG_comm (cases:= #[scase cb (.int .i64 id) (.tuple #[])]) (blocking:=true) (shape:=.send) (w':={w.setCell ⟨tb,2,none⟩ (.bool false)with drawn:=w.drawn+1}) rfl rfl (by decide) (by simp[execOp,scase,Act.eval])) f o) ?_
  rw[Frame.finish_at];walk_nrm
  refine LoneTo.goes (n:=6) ?_;s_c stepG_region_end
  s_c stepG_seq
  s_reg
  s_op
  s_c stepG_region_end
  s_c stepG_ret'
  s_stop
  refine LoneTo.done ⟨.returned (.int .i64 0),_,rfl,⟨rfl,_,rfl⟩,rfl,rfl,rfl,rfl,_,Tryz.func37,by simp[results,Tryz.f37,Frame.at]⟩
end Go.Proofs
namespace Go.Proofs
open Go.Lift
def OD(s:ByteArray)(i:Nat):Int:=match s[i]? with|some b=>(b.toNat:Int)|none=>0
def YR(b:Int)(n:Int):Int:=IntKind.wrap .u64 ((IntKind.wrap .u64 b)*2^(min n.toNat (IntKind.bits .u64)))
def wj(s:ByteArray):Nat→Int→Int
 |0,t=>t
 |k+1,t=>wj s k (Ho t (if k=0 then IntKind.wrap .u64 (OD s 0)else YR (OD s k) ((8*k:Nat):Int)))
def AC(s:ByteArray):Int:=wj s s.size 0
theorem vm{s:ByteArray}{i:Nat}(h:i<s.size):∃b,s[i]? =some b∧OD s i=(b.toNat:Int):=⟨s[i],getElem?_pos s i h,by simp[OD,getElem?_pos s i h]⟩
theorem RE{s:ByteArray}(M:s.size≤8){h:af}{K:Int→af→Prop}(g:K (AC s) h):HC PG xH [.string s] [.c (.int .u64)] K h:=by
 refine Q2 s ?_;unfold Iz;refine Join.intro (fun t d=>d=h∧1≤s.size∧wj s 1 t=wj s s.size 0) (fun G m=>?_) ?_
 ·refine Join.intro (fun t d=>d=h∧2≤s.size∧wj s 2 t=wj s s.size 0) (fun R2 p=>?_) ?_
  ·refine Join.intro (fun t d=>d=h∧3≤s.size∧wj s 3 t=wj s s.size 0) (fun O j=>?_) ?_
   ·refine Join.intro (fun t d=>d=h∧4≤s.size∧wj s 4 t=wj s s.size 0) (fun R4 n=>?_) ?_
    ·refine Join.intro (fun t d=>d=h∧5≤s.size∧wj s 5 t=wj s s.size 0) (fun P o=>?_) ?_
     ·refine Join.intro (fun t d=>d=h∧6≤s.size∧wj s 6 t=wj s s.size 0) (fun L k=>?_) ?_
      ·refine Join.intro (fun t d=>d=h∧7≤s.size∧wj s 7 t=wj s s.size 0) (fun N q=>?_) ?_
       ·refine CondP.intro (fun e=>?_) fun w=>?_
        ·have e:s.size=8:=by have:=of_decide_eq_true (by simpa using e:decide ((s.size:Int)=8)=true);omega
         obtain⟨b,a,hv⟩:=vm (s:=s) (i:=7) (by omega);refine⟨b,by decide,a,by decide,q _ _ ⟨rfl,by omega,?_⟩⟩
         rw[e,←hv];rfl
        refine CondP.intro (fun e=>?_) fun y=>?_
        ·have e:s.size=7:=by have:=of_decide_eq_true (by simpa using e:decide ((s.size:Int)=7)=true);omega
         exact q _ _ ⟨rfl,by omega,by rw[e]⟩
        refine CondP.intro (fun e=>?_) fun C=>?_
        ·have e:s.size=6:=by have:=of_decide_eq_true (by simpa using e:decide ((s.size:Int)=6)=true);omega
         exact k _ _ ⟨rfl,by omega,by rw[e]⟩
        refine CondP.intro (fun e=>?_) fun A=>?_
        ·have e:s.size=5:=by have:=of_decide_eq_true (by simpa using e:decide ((s.size:Int)=5)=true);omega
         exact o _ _ ⟨rfl,by omega,by rw[e]⟩
        refine CondP.intro (fun e=>?_) fun z=>?_
        ·have e:s.size=4:=by have:=of_decide_eq_true (by simpa using e:decide ((s.size:Int)=4)=true);omega
         exact n _ _ ⟨rfl,by omega,by rw[e]⟩
        refine CondP.intro (fun e=>?_) fun u=>?_
        ·have e:s.size=3:=by have:=of_decide_eq_true (by simpa using e:decide ((s.size:Int)=3)=true);omega
         exact j _ _ ⟨rfl,by omega,by rw[e]⟩
        refine CondP.intro (fun e=>?_) fun v=>?_
        ·have e:s.size=2:=by have:=of_decide_eq_true (by simpa using e:decide ((s.size:Int)=2)=true);omega
         exact p _ _ ⟨rfl,by omega,by rw[e]⟩
        refine CondP.intro (fun e=>?_) fun B=>?_
        ·have e:s.size=1:=by have:=of_decide_eq_true (by simpa using e:decide ((s.size:Int)=1)=true);omega
         exact m _ _ ⟨rfl,by omega,by rw[e]⟩
        have e:s.size=0:=by
         have E:¬(s.size:Int)=1:=by simpa using B
         have I:¬(s.size:Int)=2:=by simpa using v
         have D:¬(s.size:Int)=3:=by simpa using u
         have q4:¬(s.size:Int)=4:=by simpa using z
         have J:¬(s.size:Int)=5:=by simpa using A
         have F:¬(s.size:Int)=6:=by simpa using C
         have Q:¬(s.size:Int)=7:=by simpa using y
         have H:¬(s.size:Int)=8:=by simpa using w
         omega
        unfold AC at g;rw[e]at g;exact g
       ·rintro t _ ⟨rfl,f,c⟩
        obtain⟨b,a,hv⟩:=vm (s:=s) (i:=6) (by omega);refine⟨b,by decide,a,by decide,k _ _ ⟨rfl,by omega,?_⟩⟩
        rw[←c,←hv];rfl
      ·rintro t _ ⟨rfl,f,c⟩
       obtain⟨b,a,hv⟩:=vm (s:=s) (i:=5) (by omega);refine⟨b,by decide,a,by decide,o _ _ ⟨rfl,by omega,?_⟩⟩
       rw[←c,←hv];rfl
     ·rintro t _ ⟨rfl,f,c⟩
      obtain⟨b,a,hv⟩:=vm (s:=s) (i:=4) (by omega);refine⟨b,by decide,a,by decide,n _ _ ⟨rfl,by omega,?_⟩⟩
      rw[←c,←hv];rfl
    ·rintro t _ ⟨rfl,f,c⟩
     obtain⟨b,a,hv⟩:=vm (s:=s) (i:=3) (by omega);refine⟨b,by decide,a,by decide,j _ _ ⟨rfl,by omega,?_⟩⟩
     rw[←c,←hv];rfl
   ·rintro t _ ⟨rfl,f,c⟩
    obtain⟨b,a,hv⟩:=vm (s:=s) (i:=2) (by omega);refine⟨b,by decide,a,by decide,p _ _ ⟨rfl,by omega,?_⟩⟩
    rw[←c,←hv];rfl
  ·rintro t _ ⟨rfl,f,c⟩
   obtain⟨b,a,hv⟩:=vm (s:=s) (i:=1) (by omega);refine⟨b,by decide,a,by decide,m _ _ ⟨rfl,by omega,?_⟩⟩
   rw[←c,←hv];rfl
 ·rintro t _ ⟨rfl,f,c⟩
  obtain⟨b,a,hv⟩:=vm (s:=s) (i:=0) (by omega);refine⟨b,by decide,a,?_⟩
  unfold AC at g;rw[←c]at g;rw[←hv];exact g
end Go.Proofs
namespace Go.Proofs
open Go.Lift
def sZ(m:Int)(s:Q4):Q4:=
 let r:=p8 2 (s.1,s.2.1,s.2.2.1,dT s.2.2.2 m)
 (dT r.1 m,r.2)
theorem RI{m:Int}{h:af}{b:Nat}{t:TypeId}{s:Q4}(d:h[b]? =some (.cells (q4 s) t (0,0))) {K:Unit→af→Prop}
  (j:∀h',h'[b]? =some (.cells (q4 (sZ m s)) t (0,0))→Upd (· =b) h h'→K () h'):HC PG nR [.pointer (some ⟨b,0,none⟩),.int .u64 m] [] K h:=by
 refine EI _ _ ?_;unfold xb bH cS cz jQ;have c:∀{h:af} {s:Q4} {i:Nat},h[b]? =some (.cells (q4 s) t (0,0))→aR h ⟨b,0+i,none⟩=(q4 s)[i]?:=fun d=>by rw[aU];exact bI d
 have w:∀{h:af} {s:Q4} {i:Nat},h[b]? =some (.cells (q4 s) t (0,0))→i<4→Wr h ⟨b,0+i,none⟩:=fun d hi=>by rw[aU];exact jd d hi
 simp only[show((0:Int)).toNat*1=0 from rfl,show((3:Int)).toNat*1=3 from rfl]
 refine⟨_,rfl,by decide,_,c (i:=3) d,_,rfl,by decide,w (i:=3) d (by decide),qX (s':=(s.1,s.2.1,s.2.2.1,dT s.2.2.2 m)) d rfl fun u p k=>?_⟩
 refine Kf (n:=2) (by omega) p fun y a o=>?_
 have q:sZ m s=(dT (p8 2 (s.1,s.2.1,s.2.2.1,dT s.2.2.2 m)).1 m,(p8 2 (s.1,s.2.1,s.2.2.1,dT s.2.2.2 m)).2):=by unfold sZ;rfl
 rw[q]at j;generalize p8 2 (s.1,s.2.1,s.2.2.1,dT s.2.2.2 m)=r at a j;refine⟨_,rfl,by decide,_,c (i:=0) a,_,rfl,by decide,w (i:=0) a (by decide),qX (s':=(dT r.1 m,r.2)) a rfl fun v f g=>?_⟩
 exact j _ f (k.tr (o.tr g))
def E4:Nat→ByteArray→Q4→ByteArray×Q4
 |0,s,q=>(s,q)
 |n+1,s,q=>if 8≤s.size then E4 n (s.extract 8 s.size) (sZ (AC (s.extract 0 8)) q)else(s,q)
def ZT(r:Q4):Int:=dT (dT (dT r.1 r.2.1) r.2.2.1) r.2.2.2
def Ys(q:Q4):Int:=ZT (p8 4 (q.1,q.2.1,dT q.2.2.1 255,q.2.2.2))
def aaJ(n:Nat)(g:ByteArray×Q4):Int:=Ys (sZ (Ho (AC g.1) (YR (n:Int) 56)) g.2)
def Pu(k0 k1:Int)(s:ByteArray):Int:=
 aaJ s.size (E4 s.size s (dT k0 8317987319222330741,dT k1 7237128888997146477,dT k0 7816392313619706465,dT k1 8387220255154660723))
theorem Yt{a:af}{b:Nat}{t:TypeId}{r:Q4}(g:a[b]? =some (.cells (q4 r) t (0,0))) {K:Int→Prop} (j:K (ZT r)):
  (((0:Int)≤(0:Int)∧(0:Int)<((4:Nat):Int))∧
   ∃v30:Int,aR a (adr ⟨b,0,none⟩ ((0:Int).toNat*1))=some (.int .u64 v30)∧
   (((0:Int)≤(1:Int)∧(1:Int)<((4:Nat):Int))∧
    ∃v31:Int,aR a (adr ⟨b,0,none⟩ ((1:Int).toNat*1))=some (.int .u64 v31)∧
    Bd (IntKind.wrap .u64 (aw (IntKind.bits .u64) v30^^^aw (IntKind.bits .u64) v31).toNat:Int) (fun n32=>
     (((0:Int)≤(2:Int)∧(2:Int)<((4:Nat):Int))∧
      ∃v33:Int,aR a (adr ⟨b,0,none⟩ ((2:Int).toNat*1))=some (.int .u64 v33)∧
      Bd (IntKind.wrap .u64 (aw (IntKind.bits .u64) n32^^^aw (IntKind.bits .u64) v33).toNat:Int) (fun d=>
       (((0:Int)≤(3:Int)∧(3:Int)<((4:Nat):Int))∧
        ∃v35:Int,aR a (adr ⟨b,0,none⟩ ((3:Int).toNat*1))=some (.int .u64 v35)∧
        Bd (IntKind.wrap .u64 (aw (IntKind.bits .u64) d^^^aw (IntKind.bits .u64) v35).toNat:Int) (fun f=>
         K f))))))):=by
 have c:∀{i:Nat},aR a ⟨b,0+i,none⟩=(q4 r)[i]?:=by intro i;rw[aU];exact bI g
 exact⟨by decide,_,c (i:=0),by decide,_,c (i:=1),by decide,_,c (i:=2),by decide,_,c (i:=3),j⟩
theorem Yr{a:af}{b:Nat}{t:TypeId}{q:Q4}(f:a[b]? =some (.cells (q4 q) t (0,0))) {K:Unit→af→Prop}
  (p:∀h',h'[b]? =some (.cells (q4 (p8 4 (q.1,q.2.1,dT q.2.2.1 255,q.2.2.2))) t (0,0))→Upd (· =b) a h'→K () h'):
  (((0:Int)≤(2:Int)∧(2:Int)<((4:Nat):Int))∧
   ∃v25:Int,aR a (adr ⟨b,0,none⟩ ((2:Int).toNat*1))=some (.int .u64 v25)∧
   Bd (IntKind.wrap .u64 (aw (IntKind.bits .u64) v25^^^aw (IntKind.bits .u64) 255).toNat:Int) (fun o=>
    (((0:Int)≤(2:Int)∧(2:Int)<((4:Nat):Int))∧
     (Wr a (adr ⟨b,0,none⟩ ((2:Int).toNat*1))∧
      At (hset a (adr ⟨b,0,none⟩ ((2:Int).toNat*1)) (.int .u64 o)) (fun d=>
       HC PG jR [.pointer (some ⟨b,0,none⟩),.int .i64 4] [] K d))))):=by
 have c:∀{i:Nat},aR a ⟨b,0+i,none⟩=(q4 q)[i]?:=by intro i;rw[aU];exact bI f
 refine⟨by decide,_,c (i:=2),by decide,by rw[show((2:Int)).toNat*1=2 from rfl,cd];exact jd f (by simp[q4]),?_⟩
 refine qX (s':=(q.1,q.2.1,dT q.2.2.1 255,q.2.2.2)) f rfl fun u m k=>?_
 exact Kf (n:=4) (by omega) m fun s g j=>p s g (k.tr j)
theorem ce{h:af}{k:af→Prop}(a:k h):At h k:=a
theorem Zp{k0 k1:Int}{s:ByteArray}{h:af}{K:Int→af→Prop}(F:∀u,Upd No h u→K (Pu k0 k1 s) u):HC PG Eo [.agg #[.int .u64 k0,.int .u64 k1],.string s] [.c (.int .u64)] K h:=by
 refine Um (k0,k1) s ?_;unfold Lc bH cS aq nv cz jQ aaN SM SX XA;have v:=Upd.hnew No h [.int .u64 k0,.int .u64 k1] my;have b1:=dq h [.int .u64 k0,.int .u64 k1] my;have O:=ki h [.int .u64 k0,.int .u64 k1] my;refine ce ?_;simp only[fX h];generalize hnew h [.int .u64 k0,.int .u64 k1] my=h1 at v b1 O;refine⟨k0,by rw[cd,bI b1];rfl,k1,by rw[cd,bI b1];rfl,k0,by rw[cd,bI b1];rfl,k1,by rw[cd,bI b1];rfl,?_⟩
 have P:=Upd.hnew No h1 [.int .u64 0,.int .u64 0,.int .u64 0,.int .u64 0] kq;have b2:=dq h1 [.int .u64 0,.int .u64 0,.int .u64 0,.int .u64 0] kq;simp only[fX h1];simp only[Bd];refine ce ?_;refine⟨.inr ⟨_,rfl,fun j N=>by rw[cd];exact jd b2 (by simp at N⊢;omega)⟩,?_⟩
 refine ce ?_;rw[jH _ _ 0 0 _ b2 (by simp)];have b3:=jw (o:=.cells (q4 (dT k0 8317987319222330741,dT k1 7237128888997146477,dT k0 7816392313619706465,dT k1 8387220255154660723)) kq (0,0)) b2;have J:Upd No h _:=v.tr (P.trans (M':=(· =h1.size)) (Upd.set (hnew h1 [.int .u64 0,.int .u64 0,.int .u64 0,.int .u64 0] kq) (.cells (q4 (dT k0 8317987319222330741,dT k1 7237128888997146477,dT k0 7816392313619706465,dT k1 8387220255154660723)) kq (0,0)) rfl) fun b a=>.inr (Nat.le_of_eq a.symm))
 refine LoopP.ghost (fun(g:Nat×Q4) (d:ByteArray) u=>d.size≤g.1∧u[h1.size]? =some (.cells (q4 g.2) kq (0,0))∧Upd No h u∧E4 g.1 d g.2=E4 s.size s (dT k0 8317987319222330741,dT k1 7237128888997146477,dT k0 7816392313619706465,dT k1 8387220255154660723)) (fun g=>g.1) (s.size,_)
  ⟨Nat.le_refl _,b3,J,rfl⟩ ?_
 rintro I ⟨n,q⟩ d u ⟨Q,a,E,y⟩ L;simp only at Q a y;have k:∀b,b=h1.size→No b∨h.size≤b:=fun b a=>.inr (by omega)
 refine aM (fun z=>?_) fun B=>?_
 ·have z:8≤d.size:=by omega
  cases n with
  |zero=>omega
  |succ n=>
   refine⟨by omega,RE (by rw[ft];show min 8 _-0≤8;omega) (RI a fun H f p=>⟨by omega,?_⟩)⟩
   have M:((8:Int)).toNat=8:=rfl;rw[M]at f⊢;refine L (n,sZ (AC (d.extract 0 8)) q) _ _ ⟨by simp only[ft];omega,f,E.trans p k,?_⟩ (by simp only;omega);rw[←y];simp only[E4,if_pos z]
 ·have B:d.size<8:=by omega
  have y:(d,q)=E4 s.size s (dT k0 8317987319222330741,dT k1 7237128888997146477,dT k0 7816392313619706465,dT k1 8387220255154660723):=by
   rw[←y];cases n with
   |zero=>rfl
   |succ n=>simp only[E4,if_neg (show ¬8≤d.size by omega)]
  have c:∀{h:af} {s:Q4} {i:Nat},h[h1.size]? =some (.cells (q4 s) kq (0,0))→aR h ⟨h1.size,0+i,none⟩=(q4 s)[i]?:=fun a=>by rw[aU];exact bI a
  have w:∀{h:af} {s:Q4} {i:Nat},h[h1.size]? =some (.cells (q4 s) kq (0,0))→i<4→Wr h ⟨h1.size,0+i,none⟩:=fun a hi=>by rw[aU];exact jd a hi
  have D:Pu k0 k1 s=Ys (sZ (Ho (AC d) (YR (s.size:Int) 56)) q):=by unfold Pu;rw[←y];rfl
  rw[D]at F;refine RE (by omega) ⟨by decide,RI (m:=Ho (AC d) (YR (s.size:Int) 56)) a fun H f p=>?_⟩
  refine Yr f fun G C A=>Yt (K:=fun n=>K n G) C ?_
  exact F G ((E.trans p k).trans A k)
structure Hs where
 k0:Int
 k1:Int
 mask:Int
def nr(h:Hs)(s:ByteArray):Int:=OF (Pu h.k0 h.k1 s) h.mask
theorem uV{x:Hs}{s:ByteArray}{h:af}{K:Int→af→Prop}(c:∀h',Upd No h h'→K (nr x s) h'):HC PG eY [.agg #[.int .u64 x.k0,.int .u64 x.k1,.int .u64 x.mask],.string s] [.c (.int .u64)] K h:=by
 refine Df (x.k0,x.k1,x.mask) s ?_;unfold vA aq CC ci aaA;have a:=Upd.hnew No h [.int .u64 x.k0,.int .u64 x.k1,.int .u64 x.mask] cT;have b1:=dq h [.int .u64 x.k0,.int .u64 x.k1,.int .u64 x.mask] cT;simp only[At,fX h];generalize hnew h [.int .u64 x.k0,.int .u64 x.k1,.int .u64 x.mask] cT=h1 at a b1;refine⟨x.k0,by rw[cd,cd,bI b1];rfl,x.k1,by rw[cd,cd,bI b1];rfl,x.mask,by rw[cd,bI b1];rfl,?_⟩
 refine Zp fun d b=>⟨by rw[cd,bI (b.get0 b1)];rfl,c _ (a.tr b)⟩
theorem Fj(x:Hs)(s:ByteArray):0≤nr x s∧nr x s<18446744073709551616:=D1 _
end Go.Proofs
