/- A part of the proof that the named laws of this program answer true, whatever the input. -/
import Derived.Test.YtajpljopgikpgaaGreatDoorTreeF0
import Derived.Test.YtajpljopgikpgaaGreatDoorTreeF1
import Derived.Test.YtajpljopgikpgaaGreatDoorLaw0
import Derived.Conc.LoneSelect
import Derived.KernelRfl
import Derived.Laws.Rows
open BitVec renaming ofInt→ai
open ByteArray renaming size_extract→mo
open List renaming range→bX,mem_singleton→aj,mem_cons→aq
open Nat renaming zero_add→aD
open Option renaming getD_some→mQ
namespace Go.Proofs
open Go.Lift
theorem Fz(n:Int):0≤IntKind.wrap .u64 n∧IntKind.wrap .u64 n<18446744073709551616:=by rw[IntKind.wrap_u64];omega
theorem nA{x:Int}(h: -4611686018427387904≤x∧x≤4611686018427387904):IntKind.wrap .i64 x=x:=Go.IntWalk.i64_in _ (by omega)
theorem ep{i n:Nat}(h:i<n)(a:n≤4611686018427387904):IntKind.wrap .i64 ((i:Int)+1)=((i+1:Nat):Int):=by rw[nA (by omega)];omega
theorem td{h:ad}{b i:Nat}{c:Array Value}{t:TypeId}{v:Value}{k:ad→Prop}(a:h[b]? =some (.cells c t (0,0)))
  (d:∀h',h'[b]? =some (.cells (c.setIfInBounds i v) t (0,0))→Upd (· =b) h h'→k h'):At (hset h ⟨b,i,none⟩ v) k:=by
 refine d _ ?_ (Upd.hset _ _ rfl);rw[Ay a,ix a]
def Ld(a b:Int):Int:=IntKind.wrap .u64 (ai (IntKind.bits .u64) a&&&ai (IntKind.bits .u64) b).toNat
def eT(a b:Int):Int:=IntKind.wrap .u64 (ai (IntKind.bits .u64) a^^^ai (IntKind.bits .u64) b).toNat
def Kc(a b:Int):Int:=IntKind.wrap .u64 (ai (IntKind.bits .u64) a|||ai (IntKind.bits .u64) b).toNat
def FU(x n:Int):Int:=
 Kc (IntKind.wrap .u64 (x*2^(min (Ld (IntKind.wrap .u64 n) 63).toNat (IntKind.bits .u64)))) (Int.fdiv x (2^(min (IntKind.wrap .u64 (64-Ld (IntKind.wrap .u64 n) 63)).toNat (IntKind.bits .u64))))
theorem xo{x n:Int}{h:ad}{K:Int→ad→Prop}(a:K (FU x n) h):HC PG cx [.int .u64 x,.int .i64 n] [.c (.int .u64)] K h:=by
 refine qr x n ?_;unfold kO;exact⟨(Fz _).1,(Fz _).1,a⟩
abbrev Q4:=Int×Int×Int×Int
def q4(s:Q4):Array Value:= #[.int .u64 s.1,.int .u64 s.2.1,.int .u64 s.2.2.1,.int .u64 s.2.2.2]
def Mc(a b:Int):Int:=IntKind.wrap .u64 (a+b)
def Lp(s:Q4):Q4:=(Mc s.1 s.2.1,s.2)
def LI(s:Q4):Q4:=(s.1,eT (FU s.2.1 13) s.1,s.2.2)
def Mj(s:Q4):Q4:=(FU s.1 32,s.2)
def MO(s:Q4):Q4:=(s.1,s.2.1,Mc s.2.2.1 s.2.2.2,s.2.2.2)
def Nz(s:Q4):Q4:=(s.1,s.2.1,s.2.2.1,eT (FU s.2.2.2 16) s.2.2.1)
def NS(s:Q4):Q4:=(Mc s.1 s.2.2.2,s.2)
def Od(s:Q4):Q4:=(s.1,s.2.1,s.2.2.1,eT (FU s.2.2.2 21) s.1)
def On(s:Q4):Q4:=(s.1,s.2.1,Mc s.2.2.1 s.2.1,s.2.2.2)
def s09(s:Q4):Q4:=(s.1,eT (FU s.2.1 17) s.2.2.1,s.2.2)
def s10(s:Q4):Q4:=(s.1,s.2.1,FU s.2.2.1 32,s.2.2.2)
def FT(s:Q4):Q4:=s10 (s09 (On (Od (NS (Nz (MO (Mj (LI (Lp s)))))))))
def lM:Nat→Q4→Q4
 |0,s=>s
 |n+1,s=>lM n (FT s)
theorem mF{h:ad}{b i:Nat}{t:TypeId}{s s':Q4}{v:Value}{k:ad→Prop}(d:h[b]? =some (.cells (q4 s) t (0,0))) (e:(q4 s).setIfInBounds i v=q4 s')
  (f:∀a,a[b]? =some (.cells (q4 s') t (0,0))→Upd (· =b) h a→k a):At (hset h ⟨b,i,none⟩ v) k:=
 td d fun a c g=>f a (e▸c) g
theorem B8{n:Nat}(X:n≤100){h:ad}{b:Nat}{t:TypeId}{s:Q4}(y:h[b]? =some (.cells (q4 s) t (0,0))) {K:Unit→ad→Prop}
  (M:∀v,v[b]? =some (.cells (q4 (lM n s)) t (0,0))→Upd (· =b) h v→K () v):HC PG ge [.pointer (some ⟨b,0,none⟩),.int .i64 n] [] K h:=by
 refine vn _ _ ?_;unfold oW dC fH c8 qd;refine LoopP.ghost (fun(g:Nat×Q4) (N:Int) v=>N=(g.1:Int)∧g.1≤n∧v[b]? =some (.cells (q4 g.2) t (0,0))∧Upd (· =b) h v∧lM (n-g.1) g.2=lM n s) (fun g=>n-g.1) (0,s) ⟨rfl,Nat.zero_le _,y,Upd.refl _ _,rfl⟩ ?_
 rintro I ⟨i,s1⟩ N v ⟨O,hi,a,P,x⟩ S;simp only at O hi a x;subst O;refine bj (fun q=>?_) fun R=>?_
 ·have q:i<n:=by omega
  have c:∀{h:ad} {s:Q4} {i:Nat},h[b]? =some (.cells (q4 s) t (0,0))→aG h ⟨b,0+i,none⟩=(q4 s)[i]?:=fun y=>by rw[aD];exact aS y
  have w:∀{h:ad} {s:Q4} {i:Nat},h[b]? =some (.cells (q4 s) t (0,0))→i<4→Wr h ⟨b,0+i,none⟩:=fun y hi=>by rw[aD];exact gM y hi
  simp only[show((0:Int)).toNat*1=0 from rfl,show((1:Int)).toNat*1=1 from rfl,show((2:Int)).toNat*1=2 from rfl,show((3:Int)).toNat*1=3 from rfl]
  refine⟨_,rfl,by decide,_,c (i:=0) a,_,rfl,by decide,_,c (i:=1) a,_,rfl,by decide,w (i:=0) a (by decide),mF (s':=Lp s1) a rfl fun h2 e E=>?_⟩
  refine⟨_,rfl,by decide,_,c (i:=1) e,_,rfl,by decide,_,c (i:=0) e,_,rfl,xo ⟨c (i:=0) e,by decide,w (i:=1) e (by decide),mF (s':=LI (Lp s1)) e rfl fun Y u J=>?_⟩⟩
  refine⟨_,rfl,by decide,_,c (i:=0) u,_,rfl,xo ⟨by decide,w (i:=0) u (by decide),mF (s':=Mj (LI (Lp s1))) u rfl fun h4 o H=>?_⟩⟩
  refine⟨_,rfl,by decide,_,c (i:=2) o,_,rfl,by decide,_,c (i:=3) o,_,rfl,by decide,w (i:=2) o (by decide),mF (s':=MO (Mj (LI (Lp s1)))) o rfl fun h5 f F=>?_⟩
  refine⟨_,rfl,by decide,_,c (i:=3) f,_,rfl,by decide,_,c (i:=2) f,_,rfl,xo ⟨c (i:=2) f,by decide,w (i:=3) f (by decide),mF (s':=Nz (MO (Mj (LI (Lp s1))))) f rfl fun V p L=>?_⟩⟩
  refine⟨_,rfl,by decide,_,c (i:=0) p,_,rfl,by decide,_,c (i:=3) p,_,rfl,by decide,w (i:=0) p (by decide),mF (s':=NS (Nz (MO (Mj (LI (Lp s1)))))) p rfl fun W k C=>?_⟩
  refine⟨_,rfl,by decide,_,c (i:=3) k,_,rfl,by decide,_,c (i:=0) k,_,rfl,xo ⟨c (i:=0) k,by decide,w (i:=3) k (by decide),mF (s':=Od (NS (Nz (MO (Mj (LI (Lp s1))))))) k rfl fun h8 m G=>?_⟩⟩
  refine⟨_,rfl,by decide,_,c (i:=2) m,_,rfl,by decide,_,c (i:=1) m,_,rfl,by decide,w (i:=2) m (by decide),mF (s':=On (Od (NS (Nz (MO (Mj (LI (Lp s1)))))))) m rfl fun Z j D=>?_⟩
  refine⟨_,rfl,by decide,_,c (i:=1) j,_,rfl,by decide,_,c (i:=2) j,_,rfl,xo ⟨c (i:=2) j,by decide,w (i:=1) j (by decide),mF (s':=s09 (On (Od (NS (Nz (MO (Mj (LI (Lp s1))))))))) j rfl fun Q d A=>?_⟩⟩
  refine⟨_,rfl,by decide,_,c (i:=2) d,_,rfl,xo ⟨by decide,w (i:=2) d (by decide),mF (s':=FT s1) d rfl fun T z B=>?_⟩⟩
  rw[ep q (by omega)];refine S (i+1,FT s1) _ _ ⟨rfl,q,z,P.tr (E.tr (J.tr (H.tr (F.tr (L.tr (C.tr (G.tr (D.tr (A.tr B))))))))),?_⟩ (by simp only;omega);simp only;rw[←x,show n-i=(n-(i+1))+1 by omega];rfl
 ·obtain rfl:i=n:=by omega
  rw[Nat.sub_self]at x;have x:s1=lM i s:=x;rw[←x]at M;exact M _ a P
end Go.Proofs
namespace Go.Proofs
open Go Go.Lift Go.Conc Go.RowKit
theorem tJ{w:World}{b i:Nat}{c:Array Value}{t:TypeId}{v:Value}(h:w.heap[b]? =some (.cells c t (0,0))) (hv:c[i]? =some v):w.cell? ⟨b,i,none⟩=some v:=by
 simp only[World.cell?,h];exact hv
theorem II{w:World}{b i:Nat}{c:Array Value}{t:TypeId}(h:w.heap[b]? =some (.cells c t (0,0))):w.frozen? ⟨b,i,none⟩=false:=by
 simp only[World.frozen?,h];simp
set_option maxRecDepth 100000 in
theorem H3{w:World}{pb cb cap s r:Nat}{i:Int}{a:List Value}(d:w.heap[pb]? =some (.cells #[.chan (some cb)] 130 (0,0))) (hc:w.heap[cb]? =some (.chan cap (Value.int .i64 i::a).toArray false s r false)):
  Calls Tryz.prog 33 #[.pointer (some ⟨pb,0,none⟩)] w fun e w'=>e=.returned (.tuple #[.pointer (some ⟨w.heap.size,0,none⟩),.int .i64 0])∧w'=((w.setChan cb cap a.toArray false s (r+1) false).alloc (.cells #[.pointer (some ⟨pb,0,none⟩),.int .i64 i,.bool true] 140 (0,0))):=by
 refine calls_of_loneTo fun cs=>?_
 have e:Frame.enter Tryz.prog 33 #[.pointer (some ⟨pb,0,none⟩)] .normal=(base 33).at ⟨#[.pointer (some ⟨pb,0,none⟩),undef,undef,undef,undef,undef,undef,undef,undef,undef,undef,undef,undef,undef,undef,undef,undef,undef,undef],[]⟩ [.code (Tryz.f33.body.getD .skip)]:=by
  simp[Frame.enter,Frame.at,Tryz.func33,base,Tryz.f33]
 rw[e];have aG:=tJ d (i:=0) rfl;have b:(Value.int .i64 i::a).toArray.extract 1 (Value.int .i64 i::a).toArray.size=a.toArray:=by simp
 refine LoneTo.goes (n:=22) ?_;simp only[Tryz.f33,mQ];s_c stepG_seq
 s_reg
 s_op
 s_op
 s_c stepG_region_end
 s_c stepG_seq
 s_c stepG_seq
 s_reg
 s_op
 s_op
 s_c stepG_region_end
 s_cond false
 s_c stepG_skip
 s_c stepG_seq
 s_reg
 s_op
 s_op
 s_op
 s_op
 s_c stepG_region_end
 s_c stepG_seq
 s_reg
 s_stop
 refine LoneTo.step (step_lone_select_recv_buf (c:=cb) (z:=.int .i64 0) (stepG_comm (cases:= #[rcase cb (.int .i64 0)]) (blocking:=false) (shape:=.select) (w':=w) rfl rfl (by decide) (by simp[go_sem,execOp,rcase,Act.eval])) hc (by simp)) ?_;rw[b];rw[Frame.finish_at];walk_nrm
 refine LoneTo.goes (n:=20) ?_;s_op
 s_op
 s_c stepG_region_end
 s_c stepG_block
 s_cond true
 s_c stepG_seq
 s_reg
 s_op
 s_op
 s_c stepG_region_end
 s_c stepG_seq
 s_reg
 s_op
 s_op
 s_op
 s_op
 s_op
 s_op
 s_c stepG_region_end
 s_c stepG_ret'
 s_stop
 refine LoneTo.done ⟨.returned (.tuple #[.pointer (some ⟨w.heap.size,0,none⟩),.int .i64 0]),_,rfl,⟨rfl,rfl⟩,rfl,rfl,rfl,rfl,_,Tryz.func33,by simp[results,Tryz.f33,Frame.at,size_setChan]⟩
theorem mkc(w:World)(n:Nat)(h:n≤4096):(Instr.makeChan 128 (.int .i64 n)).run Tryz.prog w=.ok (.chan (some w.heap.size)) (w.alloc (.chan n #[] false 0 0 false)):=by
 have c:Tryz.prog.underlying 128=some (.chan .both 3):=by kernel_rfl
 have a:(Tryz.prog.info? 3).map (·.bytes)=some 8:=by kernel_rfl
 obtain⟨i,hi,b⟩:=Option.map_eq_some_iff.1 a;exact run_makeChan (P:=Tryz.prog) (w:=w) c hi .i64 n (by omega) (by rw[b];omega)
noncomputable abbrev zj:Code:=match Tryz.f32.body with|some (.seq _ (.seq _ (.seq _ (.seq (.seq _ (.block _ (.loop c))) _))))=>c|_=>.skip
noncomputable abbrev Df:Code:=match Tryz.f32.body with|some (.seq _ (.seq _ (.seq _ (.seq _ c))))=>c|_=>.skip
set_option maxRecDepth 100000 in
set_option maxHeartbeats 4000000 in
theorem Kf{n pb cb:Nat}{Q:Goroutine→World→Prop}{cs:List Frame}(L:n≤4096)(A:pb≠cb):∀(m i:Nat) (t e f o d p g k q b:Value) (ids:List Value) (s r:Nat) (w:World),i+m=n→ids.length=i→w.heap[pb]? =some (.cells #[.chan (some cb)] 130 (0,0))→w.heap[cb]? =some (.chan n ids.toArray false s r false)→
  (∀(t e f o d p g k q b:Value) (a:List Value) (s' x:Nat) (w':World),a=ids++(bX m).map (fun j=>Value.int .i64 ((i+j:Nat)+1:Int))→(w'=w∨w'=w.setChan cb n a.toArray false s' x false)→w'.heap[cb]? =some (.chan n a.toArray false s' x false)→LoneTo Tryz.prog Q (G ((base 32).at ⟨#[.int .i64 n,undef,.pointer none,.int .i64 0,.pointer (some ⟨pb,0,none⟩),t,.int .i64 n,.bool false,.bool false,.int .i64 n,.bool false,.bool false,.int .i64 n,.chan (some cb),.agg #[.chan (some cb)],.pointer (some ⟨pb,0,none⟩),.int .i64 n,.int .i64 n,e,f,o,d,p,g,k,q,b,undef],[]⟩ [.code Df]) cs) w')→
  LoneTo Tryz.prog Q (G ((base 32).at ⟨#[.int .i64 n,undef,.pointer none,.int .i64 0,.pointer (some ⟨pb,0,none⟩),t,.int .i64 n,.bool false,.bool false,.int .i64 n,.bool false,.bool false,.int .i64 n,.chan (some cb),.agg #[.chan (some cb)],.pointer (some ⟨pb,0,none⟩),.int .i64 n,.int .i64 i,e,f,o,d,p,g,k,q,b,undef],[]⟩ [.code zj,.inLoop zj,.inBlock 0,.code Df]) cs) w:=by
 intro m;induction m with
 |zero=>
  intro i t e f o d p g k q b ids s r w u C D hc B;have u:i=n:=by omega
  subst u;have z:¬((i:Int)<(i:Int)):=by omega
  refine LoneTo.goes (n:=9) ?_;simp only[zj,Tryz.f32];s_c stepG_seq
  s_reg
  s_op
  s_c stepG_region_end
  s_c stepG_seq
  s_cond false
  s_exit
  s_stop
  exact B _ _ _ _ _ _ _ _ _ _ ids s r w (by simp) (.inl rfl) hc
 |succ m ih=>
  intro i t e f o d p g k q b ids s r w u C D hc B;have z:((i:Int)<(n:Int)):=by omega
  have aG:=tJ D (i:=0) rfl;have F:IntKind.wrap .i64 ((i:Int)+1)=((i+1:Nat):Int):=by rw[nA (by omega)];omega
  refine LoneTo.goes (n:=21) ?_;simp only[zj,Tryz.f32];s_c stepG_seq
  s_reg
  s_op
  s_c stepG_region_end
  s_c stepG_seq
  s_cond true
  s_c stepG_skip
  s_c stepG_seq
  s_c stepG_block
  s_c stepG_seq
  s_reg
  s_op
  s_op
  s_c stepG_region_end
  s_reg
  s_op
  s_op
  s_op
  s_op
  s_op
  s_op
  s_stop
  refine LoneTo.step (step_lone_send_room (c:=cb) (cap:=n) (buf:=ids.toArray) (s:=s) (r:=r) (tm:=false) (stepG_comm (cases:= #[scase cb (.int .i64 ((i:Int)+1)) (.tuple #[])]) (blocking:=true) (shape:=.send) (w':=w) rfl rfl (by decide) (by simp[execOp,scase,Act.eval])) hc (by simp[C];omega)) ?_;rw[Frame.finish_at];walk_nrm
  have hz:cb<w.heap.size:=(Array.getElem?_eq_some_iff.1 hc).1;refine LoneTo.goes (n:=7) ?_;s_c stepG_region_end
  s_c stepG_inBlock
  s_reg
  s_op
  s_op
  s_c stepG_region_end
  s_c stepG_inLoop
  s_stop
  have J:((i:Int)+1)=((i+1:Nat):Int):=by omega
  rw[J];refine ih (i+1) _ _ _ _ _ _ _ _ _ _ (ids++ [Value.int .i64 ((i+1:Nat):Int)]) (s+1) r (w.setChan cb n (ids++ [Value.int .i64 ((i+1:Nat):Int)]).toArray false (s+1) r false) (by omega) (by simp[C]) ?_ (heap_setChan _ _ _ _ _ _ _ _ hz) fun t e f o d p g k q b a s' x w' K v y=>B t e f o d p g k q b a s' x w' ?_ (.inr ?_) y
  ·simp only[World.setChan,Array.getElem?_setIfInBounds]
   rw[if_neg (Ne.symm A)];exact D
  ·rw[K,List.range_succ_eq_map]
   simp[Nat.add_comm,Nat.add_left_comm,Function.comp_def]
  ·rcases v with v|v
   ·subst v
    rw[heap_setChan _ _ _ _ _ _ _ _ hz]at y;simp only[Option.some.injEq,Obj.chan.injEq]at y;obtain⟨_,E,_,H,I,_⟩:=y;rw[E,H,I]
   ·rw[v];simp[World.setChan]
set_option maxRecDepth 100000 in
set_option maxHeartbeats 4000000 in
theorem Ke{n:Nat}{w:World}(y:1≤n)(a:n≤4096):Calls Tryz.prog 32 #[.int .i64 n] w fun e w'=>e=.returned (.tuple #[.pointer (some ⟨w.heap.size+1,0,none⟩),.int .i64 0])∧∃(ids:List Value) (s r:Nat),ids=(bX n).map (fun j=>Value.int .i64 ((0+j:Nat)+1:Int))∧w'.heap[w.heap.size]? =some (.chan n ids.toArray false s r false)∧(w'=(w.alloc (.chan n #[] false 0 0 false)).alloc (.cells #[.chan (some w.heap.size)] 130 (0,0))∨w'=((w.alloc (.chan n #[] false 0 0 false)).alloc (.cells #[.chan (some w.heap.size)] 130 (0,0))).setChan w.heap.size n ids.toArray false s r false):=by
 refine calls_of_loneTo fun cs=>?_
 have e:Frame.enter Tryz.prog 32 #[.int .i64 n] .normal=(base 32).at ⟨#[.int .i64 n,undef,undef,undef,undef,undef,undef,undef,undef,undef,undef,undef,undef,undef,undef,undef,undef,undef,undef,undef,undef,undef,undef,undef,undef,undef,undef,undef],[]⟩ [.code (Tryz.f32.body.getD .skip)]:=by
  simp[Frame.enter,Frame.at,Tryz.func32,base,Tryz.f32]
 rw[e];have m:=fun w=>mkc w n a
 have c1:¬((n:Int)<1):=by omega
 have c2:¬(4096<(n:Int)):=by omega
 refine LoneTo.goes (n:=33) ?_;simp only[Tryz.f32,mQ];s_c stepG_seq
 s_reg
 s_op
 s_op
 s_c stepG_region_end
 s_c stepG_seq
 s_c stepG_seq
 s_reg
 s_op
 s_op
 s_op
 s_op
 s_op
 s_op
 s_c stepG_region_end
 s_cond false
 s_c stepG_skip
 s_c stepG_seq
 s_reg
 s_op
 s_op
 s_op
 s_op
 s_op
 s_c stepG_region_end
 s_c stepG_seq
 s_c stepG_seq
 s_reg
 s_op
 s_op
 s_c stepG_region_end
 s_c stepG_block
 s_c stepG_loop
 s_stop
 have v:((w.alloc (.chan n #[] false 0 0 false)).alloc (.cells #[.chan (some w.heap.size)] 130 (0,0))).heap[w.heap.size+1]? =some (.cells #[.chan (some w.heap.size)] 130 (0,0)):=by
  have:=heap_alloc_new (w.alloc (.chan n #[] false 0 0 false)) (.cells #[.chan (some w.heap.size)] 130 (0,0));simpa using this
 have c:((w.alloc (.chan n #[] false 0 0 false)).alloc (.cells #[.chan (some w.heap.size)] 130 (0,0))).heap[w.heap.size]? =some (.chan n #[] false 0 0 false):=by
  show((w.heap.push (.chan n #[] false 0 0 false)).push (.cells #[.chan (some w.heap.size)] 130 (0,0)))[w.heap.size]? =_
  simp[Array.getElem?_push]
 refine Kf a (by omega) n 0 _ _ _ _ _ _ _ _ _ _ [] 0 0 _ (by omega) rfl v c fun z g i d o f k b p x ids s r w' q u t=>?_
 refine LoneTo.goes (n:=7) ?_;simp only[Df,Tryz.f32];s_c stepG_seq
 s_reg
 s_op
 s_op
 s_op
 s_c stepG_region_end
 s_c stepG_ret'
 s_stop
 refine LoneTo.done ⟨.returned (.tuple #[.pointer (some ⟨w.heap.size+1,0,none⟩),.int .i64 0]),_,rfl,⟨rfl,ids,s,r,by simpa[bX]using q,t,u⟩,rfl,rfl,rfl,rfl,_,Tryz.func32,by simp[results,Tryz.f32,Frame.at]⟩
theorem ef{md:Region.Mode}{ops:Array Oper}{fuel t:Nat}{listed:Array Bool}{rs:List Nat}(c:Region.ready md ops listed=rs)(b:rs≠[]):∃i∈rs,∃t',Region.linearise.go md ops (fuel+1) t listed []=i::Region.linearise.go md ops fuel t' (listed.setIfInBounds i true) []:=by
 subst c;simp only[Region.linearise.go];change∃i∈Region.ready md ops listed,∃t',(match(Region.ready md ops listed)[t%(Region.ready md ops listed).length]? with
  |some i=>Region.linearise.go md ops fuel (t/(Region.ready md ops listed).length) (listed.setIfInBounds i true) [i]
  |none=> [].reverse)=i::Region.linearise.go md ops fuel t' (listed.setIfInBounds i true) []
 have d:0<(Region.ready md ops listed).length:=List.length_pos_iff.2 b;have a:t%(Region.ready md ops listed).length<(Region.ready md ops listed).length:=Nat.mod_lt _ d;rw[List.getElem?_eq_getElem a];refine⟨_,List.getElem_mem a,t/(Region.ready md ops listed).length,?_⟩;simp only[];rw[linearise_go_acc];rfl
noncomputable abbrev aB:Array Oper:=match Tryz.f37.body with|some (.seq _ (.seq _ (.seq _ (.seq (.region _ o _) _))))=>o|_=> #[]
section
variable {pb tb cb:Nat} {id:Int} {u2 u3 u4 u5 u6 u7 u8 u9 u10 u11 u12 u13 u14 u15 u16 u17 u18 u19 u20 u21 u22:Value} {Q:Goroutine→World→Prop} {cs:List Frame} {kk:List Item} {w:World}
set_option maxRecDepth 100000
theorem Kz(d:w.cell? ⟨pb,0,none⟩=some (.chan (some cb)))(c:w.cell? ⟨tb,1,none⟩=some (.int .i64 id))(a:∀t,LoneTo Tryz.prog Q (G ((base 37).at ⟨#[.pointer (some ⟨pb,0,none⟩),.pointer (some ⟨tb,0,none⟩),u2,u3,u4,u5,u6,u7,u8,u9,u10,u11,u12,u13,u14,u15,u16,u17,u18,u19,u20,u21,u22,.pointer (some ⟨pb,0,none⟩),.pointer (some ⟨pb,0,none⟩),.pointer (some ⟨pb,0,none⟩),.chan (some cb),.pointer (some ⟨tb,0,none⟩),.pointer (some ⟨tb,0,none⟩),.pointer (some ⟨tb,1,none⟩),.int .i64 id],[]⟩ (.inRegion aB (Region.linearise.go .any aB 1 t #[true,true,true,true,true,true,true,true,false] [])::kk)) cs) w)(t:Nat):LoneTo Tryz.prog Q (G ((base 37).at ⟨#[.pointer (some ⟨pb,0,none⟩),.pointer (some ⟨tb,0,none⟩),u2,u3,u4,u5,u6,u7,u8,u9,u10,u11,u12,u13,u14,u15,u16,u17,u18,u19,u20,u21,u22,.pointer (some ⟨pb,0,none⟩),.pointer (some ⟨pb,0,none⟩),.pointer (some ⟨pb,0,none⟩),.chan (some cb),.pointer (some ⟨tb,0,none⟩),.pointer (some ⟨tb,0,none⟩),.pointer (some ⟨tb,1,none⟩),undef],[]⟩ (.inRegion aB (Region.linearise.go .any aB 2 t #[true,true,true,true,true,true,true,false,false] [])::kk)) cs) w:=by
 obtain⟨i,hi,b,e⟩:=ef (md:=.any) (ops:=aB) (fuel:=1) (t:=t) (listed:= #[true,true,true,true,true,true,true,false,false]) (rs:= [7]) (by kernel_rfl) (by simp);rw[e];rw[aj.1 hi];refine LoneTo.goes (n:=1) ?_;simp only[aB,Tryz.f37];s_op
 s_stop
 exact a b
theorem KC(d:w.cell? ⟨pb,0,none⟩=some (.chan (some cb)))(c:w.cell? ⟨tb,1,none⟩=some (.int .i64 id))(a:∀t,LoneTo Tryz.prog Q (G ((base 37).at ⟨#[.pointer (some ⟨pb,0,none⟩),.pointer (some ⟨tb,0,none⟩),u2,u3,u4,u5,u6,u7,u8,u9,u10,u11,u12,u13,u14,u15,u16,u17,u18,u19,u20,u21,u22,.pointer (some ⟨pb,0,none⟩),.pointer (some ⟨pb,0,none⟩),.pointer (some ⟨pb,0,none⟩),.chan (some cb),.pointer (some ⟨tb,0,none⟩),.pointer (some ⟨tb,0,none⟩),.pointer (some ⟨tb,1,none⟩),.int .i64 id],[]⟩ (.inRegion aB (Region.linearise.go .any aB 1 t #[true,true,true,true,true,true,true,true,false] [])::kk)) cs) w)(t:Nat):LoneTo Tryz.prog Q (G ((base 37).at ⟨#[.pointer (some ⟨pb,0,none⟩),.pointer (some ⟨tb,0,none⟩),u2,u3,u4,u5,u6,u7,u8,u9,u10,u11,u12,u13,u14,u15,u16,u17,u18,u19,u20,u21,u22,.pointer (some ⟨pb,0,none⟩),.pointer (some ⟨pb,0,none⟩),.pointer (some ⟨pb,0,none⟩),undef,.pointer (some ⟨tb,0,none⟩),.pointer (some ⟨tb,0,none⟩),.pointer (some ⟨tb,1,none⟩),.int .i64 id],[]⟩ (.inRegion aB (Region.linearise.go .any aB 2 t #[true,true,true,false,true,true,true,true,false] [])::kk)) cs) w:=by
 obtain⟨i,hi,b,e⟩:=ef (md:=.any) (ops:=aB) (fuel:=1) (t:=t) (listed:= #[true,true,true,false,true,true,true,true,false]) (rs:= [3]) (by kernel_rfl) (by simp);rw[e];rw[aj.1 hi];refine LoneTo.goes (n:=1) ?_;simp only[aB,Tryz.f37];s_op
 s_stop
 exact a b
theorem KA(b:w.cell? ⟨pb,0,none⟩=some (.chan (some cb)))(a:w.cell? ⟨tb,1,none⟩=some (.int .i64 id))(c:∀t,LoneTo Tryz.prog Q (G ((base 37).at ⟨#[.pointer (some ⟨pb,0,none⟩),.pointer (some ⟨tb,0,none⟩),u2,u3,u4,u5,u6,u7,u8,u9,u10,u11,u12,u13,u14,u15,u16,u17,u18,u19,u20,u21,u22,.pointer (some ⟨pb,0,none⟩),.pointer (some ⟨pb,0,none⟩),.pointer (some ⟨pb,0,none⟩),.chan (some cb),.pointer (some ⟨tb,0,none⟩),.pointer (some ⟨tb,0,none⟩),.pointer (some ⟨tb,1,none⟩),.int .i64 id],[]⟩ (.inRegion aB (Region.linearise.go .any aB 1 t #[true,true,true,true,true,true,true,true,false] [])::kk)) cs) w)(t:Nat):LoneTo Tryz.prog Q (G ((base 37).at ⟨#[.pointer (some ⟨pb,0,none⟩),.pointer (some ⟨tb,0,none⟩),u2,u3,u4,u5,u6,u7,u8,u9,u10,u11,u12,u13,u14,u15,u16,u17,u18,u19,u20,u21,u22,.pointer (some ⟨pb,0,none⟩),.pointer (some ⟨pb,0,none⟩),.pointer (some ⟨pb,0,none⟩),.chan (some cb),.pointer (some ⟨tb,0,none⟩),.pointer (some ⟨tb,0,none⟩),undef,undef],[]⟩ (.inRegion aB (Region.linearise.go .any aB 3 t #[true,true,true,true,true,true,false,false,false] [])::kk)) cs) w:=by
 obtain⟨i,hi,d,e⟩:=ef (md:=.any) (ops:=aB) (fuel:=2) (t:=t) (listed:= #[true,true,true,true,true,true,false,false,false]) (rs:= [6]) (by kernel_rfl) (by simp);rw[e];rw[aj.1 hi];refine LoneTo.goes (n:=1) ?_;simp only[aB,Tryz.f37];s_op
 s_stop
 exact Kz b a c d
theorem KD(b:w.cell? ⟨pb,0,none⟩=some (.chan (some cb)))(a:w.cell? ⟨tb,1,none⟩=some (.int .i64 id))(c:∀t,LoneTo Tryz.prog Q (G ((base 37).at ⟨#[.pointer (some ⟨pb,0,none⟩),.pointer (some ⟨tb,0,none⟩),u2,u3,u4,u5,u6,u7,u8,u9,u10,u11,u12,u13,u14,u15,u16,u17,u18,u19,u20,u21,u22,.pointer (some ⟨pb,0,none⟩),.pointer (some ⟨pb,0,none⟩),.pointer (some ⟨pb,0,none⟩),.chan (some cb),.pointer (some ⟨tb,0,none⟩),.pointer (some ⟨tb,0,none⟩),.pointer (some ⟨tb,1,none⟩),.int .i64 id],[]⟩ (.inRegion aB (Region.linearise.go .any aB 1 t #[true,true,true,true,true,true,true,true,false] [])::kk)) cs) w)(t:Nat):LoneTo Tryz.prog Q (G ((base 37).at ⟨#[.pointer (some ⟨pb,0,none⟩),.pointer (some ⟨tb,0,none⟩),u2,u3,u4,u5,u6,u7,u8,u9,u10,u11,u12,u13,u14,u15,u16,u17,u18,u19,u20,u21,u22,.pointer (some ⟨pb,0,none⟩),.pointer (some ⟨pb,0,none⟩),.pointer (some ⟨pb,0,none⟩),undef,.pointer (some ⟨tb,0,none⟩),.pointer (some ⟨tb,0,none⟩),.pointer (some ⟨tb,1,none⟩),undef],[]⟩ (.inRegion aB (Region.linearise.go .any aB 3 t #[true,true,true,false,true,true,true,false,false] [])::kk)) cs) w:=by
 obtain⟨i,hi,d,e⟩:=ef (md:=.any) (ops:=aB) (fuel:=2) (t:=t) (listed:= #[true,true,true,false,true,true,true,false,false]) (rs:= [3,7]) (by kernel_rfl) (by simp);rw[e];rcases aq.1 hi with rfl|hi
 ·skip
  refine LoneTo.goes (n:=1) ?_;simp only[aB,Tryz.f37];s_op
  s_stop
  exact Kz b a c d
 ·rw[aj.1 hi]
  refine LoneTo.goes (n:=1) ?_;simp only[aB,Tryz.f37];s_op
  s_stop
  exact KC b a c d
theorem KG(b:w.cell? ⟨pb,0,none⟩=some (.chan (some cb)))(a:w.cell? ⟨tb,1,none⟩=some (.int .i64 id))(c:∀t,LoneTo Tryz.prog Q (G ((base 37).at ⟨#[.pointer (some ⟨pb,0,none⟩),.pointer (some ⟨tb,0,none⟩),u2,u3,u4,u5,u6,u7,u8,u9,u10,u11,u12,u13,u14,u15,u16,u17,u18,u19,u20,u21,u22,.pointer (some ⟨pb,0,none⟩),.pointer (some ⟨pb,0,none⟩),.pointer (some ⟨pb,0,none⟩),.chan (some cb),.pointer (some ⟨tb,0,none⟩),.pointer (some ⟨tb,0,none⟩),.pointer (some ⟨tb,1,none⟩),.int .i64 id],[]⟩ (.inRegion aB (Region.linearise.go .any aB 1 t #[true,true,true,true,true,true,true,true,false] [])::kk)) cs) w)(t:Nat):LoneTo Tryz.prog Q (G ((base 37).at ⟨#[.pointer (some ⟨pb,0,none⟩),.pointer (some ⟨tb,0,none⟩),u2,u3,u4,u5,u6,u7,u8,u9,u10,u11,u12,u13,u14,u15,u16,u17,u18,u19,u20,u21,u22,.pointer (some ⟨pb,0,none⟩),.pointer (some ⟨pb,0,none⟩),undef,undef,.pointer (some ⟨tb,0,none⟩),.pointer (some ⟨tb,0,none⟩),.pointer (some ⟨tb,1,none⟩),.int .i64 id],[]⟩ (.inRegion aB (Region.linearise.go .any aB 3 t #[true,true,false,false,true,true,true,true,false] [])::kk)) cs) w:=by
 obtain⟨i,hi,d,e⟩:=ef (md:=.any) (ops:=aB) (fuel:=2) (t:=t) (listed:= #[true,true,false,false,true,true,true,true,false]) (rs:= [2]) (by kernel_rfl) (by simp);rw[e];rw[aj.1 hi];refine LoneTo.goes (n:=1) ?_;simp only[aB,Tryz.f37];s_op
 s_stop
 exact KC b a c d
theorem KB(b:w.cell? ⟨pb,0,none⟩=some (.chan (some cb)))(a:w.cell? ⟨tb,1,none⟩=some (.int .i64 id))(c:∀t,LoneTo Tryz.prog Q (G ((base 37).at ⟨#[.pointer (some ⟨pb,0,none⟩),.pointer (some ⟨tb,0,none⟩),u2,u3,u4,u5,u6,u7,u8,u9,u10,u11,u12,u13,u14,u15,u16,u17,u18,u19,u20,u21,u22,.pointer (some ⟨pb,0,none⟩),.pointer (some ⟨pb,0,none⟩),.pointer (some ⟨pb,0,none⟩),.chan (some cb),.pointer (some ⟨tb,0,none⟩),.pointer (some ⟨tb,0,none⟩),.pointer (some ⟨tb,1,none⟩),.int .i64 id],[]⟩ (.inRegion aB (Region.linearise.go .any aB 1 t #[true,true,true,true,true,true,true,true,false] [])::kk)) cs) w)(t:Nat):LoneTo Tryz.prog Q (G ((base 37).at ⟨#[.pointer (some ⟨pb,0,none⟩),.pointer (some ⟨tb,0,none⟩),u2,u3,u4,u5,u6,u7,u8,u9,u10,u11,u12,u13,u14,u15,u16,u17,u18,u19,u20,u21,u22,.pointer (some ⟨pb,0,none⟩),.pointer (some ⟨pb,0,none⟩),.pointer (some ⟨pb,0,none⟩),.chan (some cb),.pointer (some ⟨tb,0,none⟩),undef,undef,undef],[]⟩ (.inRegion aB (Region.linearise.go .any aB 4 t #[true,true,true,true,true,false,false,false,false] [])::kk)) cs) w:=by
 obtain⟨i,hi,d,e⟩:=ef (md:=.any) (ops:=aB) (fuel:=3) (t:=t) (listed:= #[true,true,true,true,true,false,false,false,false]) (rs:= [5]) (by kernel_rfl) (by simp);rw[e];rw[aj.1 hi];refine LoneTo.goes (n:=1) ?_;simp only[aB,Tryz.f37];s_op
 s_stop
 exact KA b a c d
theorem KE(b:w.cell? ⟨pb,0,none⟩=some (.chan (some cb)))(a:w.cell? ⟨tb,1,none⟩=some (.int .i64 id))(c:∀t,LoneTo Tryz.prog Q (G ((base 37).at ⟨#[.pointer (some ⟨pb,0,none⟩),.pointer (some ⟨tb,0,none⟩),u2,u3,u4,u5,u6,u7,u8,u9,u10,u11,u12,u13,u14,u15,u16,u17,u18,u19,u20,u21,u22,.pointer (some ⟨pb,0,none⟩),.pointer (some ⟨pb,0,none⟩),.pointer (some ⟨pb,0,none⟩),.chan (some cb),.pointer (some ⟨tb,0,none⟩),.pointer (some ⟨tb,0,none⟩),.pointer (some ⟨tb,1,none⟩),.int .i64 id],[]⟩ (.inRegion aB (Region.linearise.go .any aB 1 t #[true,true,true,true,true,true,true,true,false] [])::kk)) cs) w)(t:Nat):LoneTo Tryz.prog Q (G ((base 37).at ⟨#[.pointer (some ⟨pb,0,none⟩),.pointer (some ⟨tb,0,none⟩),u2,u3,u4,u5,u6,u7,u8,u9,u10,u11,u12,u13,u14,u15,u16,u17,u18,u19,u20,u21,u22,.pointer (some ⟨pb,0,none⟩),.pointer (some ⟨pb,0,none⟩),.pointer (some ⟨pb,0,none⟩),undef,.pointer (some ⟨tb,0,none⟩),.pointer (some ⟨tb,0,none⟩),undef,undef],[]⟩ (.inRegion aB (Region.linearise.go .any aB 4 t #[true,true,true,false,true,true,false,false,false] [])::kk)) cs) w:=by
 obtain⟨i,hi,d,e⟩:=ef (md:=.any) (ops:=aB) (fuel:=3) (t:=t) (listed:= #[true,true,true,false,true,true,false,false,false]) (rs:= [3,6]) (by kernel_rfl) (by simp);rw[e];rcases aq.1 hi with rfl|hi
 ·skip
  refine LoneTo.goes (n:=1) ?_;simp only[aB,Tryz.f37];s_op
  s_stop
  exact KA b a c d
 ·rw[aj.1 hi]
  refine LoneTo.goes (n:=1) ?_;simp only[aB,Tryz.f37];s_op
  s_stop
  exact KD b a c d
theorem KH(b:w.cell? ⟨pb,0,none⟩=some (.chan (some cb)))(a:w.cell? ⟨tb,1,none⟩=some (.int .i64 id))(c:∀t,LoneTo Tryz.prog Q (G ((base 37).at ⟨#[.pointer (some ⟨pb,0,none⟩),.pointer (some ⟨tb,0,none⟩),u2,u3,u4,u5,u6,u7,u8,u9,u10,u11,u12,u13,u14,u15,u16,u17,u18,u19,u20,u21,u22,.pointer (some ⟨pb,0,none⟩),.pointer (some ⟨pb,0,none⟩),.pointer (some ⟨pb,0,none⟩),.chan (some cb),.pointer (some ⟨tb,0,none⟩),.pointer (some ⟨tb,0,none⟩),.pointer (some ⟨tb,1,none⟩),.int .i64 id],[]⟩ (.inRegion aB (Region.linearise.go .any aB 1 t #[true,true,true,true,true,true,true,true,false] [])::kk)) cs) w)(t:Nat):LoneTo Tryz.prog Q (G ((base 37).at ⟨#[.pointer (some ⟨pb,0,none⟩),.pointer (some ⟨tb,0,none⟩),u2,u3,u4,u5,u6,u7,u8,u9,u10,u11,u12,u13,u14,u15,u16,u17,u18,u19,u20,u21,u22,.pointer (some ⟨pb,0,none⟩),.pointer (some ⟨pb,0,none⟩),undef,undef,.pointer (some ⟨tb,0,none⟩),.pointer (some ⟨tb,0,none⟩),.pointer (some ⟨tb,1,none⟩),undef],[]⟩ (.inRegion aB (Region.linearise.go .any aB 4 t #[true,true,false,false,true,true,true,false,false] [])::kk)) cs) w:=by
 obtain⟨i,hi,d,e⟩:=ef (md:=.any) (ops:=aB) (fuel:=3) (t:=t) (listed:= #[true,true,false,false,true,true,true,false,false]) (rs:= [2,7]) (by kernel_rfl) (by simp);rw[e];rcases aq.1 hi with rfl|hi
 ·skip
  refine LoneTo.goes (n:=1) ?_;simp only[aB,Tryz.f37];s_op
  s_stop
  exact KD b a c d
 ·rw[aj.1 hi]
  refine LoneTo.goes (n:=1) ?_;simp only[aB,Tryz.f37];s_op
  s_stop
  exact KG b a c d
theorem KL(b:w.cell? ⟨pb,0,none⟩=some (.chan (some cb)))(a:w.cell? ⟨tb,1,none⟩=some (.int .i64 id))(c:∀t,LoneTo Tryz.prog Q (G ((base 37).at ⟨#[.pointer (some ⟨pb,0,none⟩),.pointer (some ⟨tb,0,none⟩),u2,u3,u4,u5,u6,u7,u8,u9,u10,u11,u12,u13,u14,u15,u16,u17,u18,u19,u20,u21,u22,.pointer (some ⟨pb,0,none⟩),.pointer (some ⟨pb,0,none⟩),.pointer (some ⟨pb,0,none⟩),.chan (some cb),.pointer (some ⟨tb,0,none⟩),.pointer (some ⟨tb,0,none⟩),.pointer (some ⟨tb,1,none⟩),.int .i64 id],[]⟩ (.inRegion aB (Region.linearise.go .any aB 1 t #[true,true,true,true,true,true,true,true,false] [])::kk)) cs) w)(t:Nat):LoneTo Tryz.prog Q (G ((base 37).at ⟨#[.pointer (some ⟨pb,0,none⟩),.pointer (some ⟨tb,0,none⟩),u2,u3,u4,u5,u6,u7,u8,u9,u10,u11,u12,u13,u14,u15,u16,u17,u18,u19,u20,u21,u22,.pointer (some ⟨pb,0,none⟩),undef,undef,undef,.pointer (some ⟨tb,0,none⟩),.pointer (some ⟨tb,0,none⟩),.pointer (some ⟨tb,1,none⟩),.int .i64 id],[]⟩ (.inRegion aB (Region.linearise.go .any aB 4 t #[true,false,false,false,true,true,true,true,false] [])::kk)) cs) w:=by
 obtain⟨i,hi,d,e⟩:=ef (md:=.any) (ops:=aB) (fuel:=3) (t:=t) (listed:= #[true,false,false,false,true,true,true,true,false]) (rs:= [1]) (by kernel_rfl) (by simp);rw[e];rw[aj.1 hi];refine LoneTo.goes (n:=1) ?_;simp only[aB,Tryz.f37];s_op
 s_stop
 exact KG b a c d
theorem Nb(b:w.cell? ⟨pb,0,none⟩=some (.chan (some cb)))(a:w.cell? ⟨tb,1,none⟩=some (.int .i64 id))(c:∀t,LoneTo Tryz.prog Q (G ((base 37).at ⟨#[.pointer (some ⟨pb,0,none⟩),.pointer (some ⟨tb,0,none⟩),u2,u3,u4,u5,u6,u7,u8,u9,u10,u11,u12,u13,u14,u15,u16,u17,u18,u19,u20,u21,u22,.pointer (some ⟨pb,0,none⟩),.pointer (some ⟨pb,0,none⟩),.pointer (some ⟨pb,0,none⟩),.chan (some cb),.pointer (some ⟨tb,0,none⟩),.pointer (some ⟨tb,0,none⟩),.pointer (some ⟨tb,1,none⟩),.int .i64 id],[]⟩ (.inRegion aB (Region.linearise.go .any aB 1 t #[true,true,true,true,true,true,true,true,false] [])::kk)) cs) w)(t:Nat):LoneTo Tryz.prog Q (G ((base 37).at ⟨#[.pointer (some ⟨pb,0,none⟩),.pointer (some ⟨tb,0,none⟩),u2,u3,u4,u5,u6,u7,u8,u9,u10,u11,u12,u13,u14,u15,u16,u17,u18,u19,u20,u21,u22,.pointer (some ⟨pb,0,none⟩),.pointer (some ⟨pb,0,none⟩),.pointer (some ⟨pb,0,none⟩),.chan (some cb),undef,undef,undef,undef],[]⟩ (.inRegion aB (Region.linearise.go .any aB 5 t #[true,true,true,true,false,false,false,false,false] [])::kk)) cs) w:=by
 obtain⟨i,hi,d,e⟩:=ef (md:=.any) (ops:=aB) (fuel:=4) (t:=t) (listed:= #[true,true,true,true,false,false,false,false,false]) (rs:= [4]) (by kernel_rfl) (by simp);rw[e];rw[aj.1 hi];refine LoneTo.goes (n:=1) ?_;simp only[aB,Tryz.f37];s_op
 s_stop
 exact KB b a c d
theorem KF(b:w.cell? ⟨pb,0,none⟩=some (.chan (some cb)))(a:w.cell? ⟨tb,1,none⟩=some (.int .i64 id))(c:∀t,LoneTo Tryz.prog Q (G ((base 37).at ⟨#[.pointer (some ⟨pb,0,none⟩),.pointer (some ⟨tb,0,none⟩),u2,u3,u4,u5,u6,u7,u8,u9,u10,u11,u12,u13,u14,u15,u16,u17,u18,u19,u20,u21,u22,.pointer (some ⟨pb,0,none⟩),.pointer (some ⟨pb,0,none⟩),.pointer (some ⟨pb,0,none⟩),.chan (some cb),.pointer (some ⟨tb,0,none⟩),.pointer (some ⟨tb,0,none⟩),.pointer (some ⟨tb,1,none⟩),.int .i64 id],[]⟩ (.inRegion aB (Region.linearise.go .any aB 1 t #[true,true,true,true,true,true,true,true,false] [])::kk)) cs) w)(t:Nat):LoneTo Tryz.prog Q (G ((base 37).at ⟨#[.pointer (some ⟨pb,0,none⟩),.pointer (some ⟨tb,0,none⟩),u2,u3,u4,u5,u6,u7,u8,u9,u10,u11,u12,u13,u14,u15,u16,u17,u18,u19,u20,u21,u22,.pointer (some ⟨pb,0,none⟩),.pointer (some ⟨pb,0,none⟩),.pointer (some ⟨pb,0,none⟩),undef,.pointer (some ⟨tb,0,none⟩),undef,undef,undef],[]⟩ (.inRegion aB (Region.linearise.go .any aB 5 t #[true,true,true,false,true,false,false,false,false] [])::kk)) cs) w:=by
 obtain⟨i,hi,d,e⟩:=ef (md:=.any) (ops:=aB) (fuel:=4) (t:=t) (listed:= #[true,true,true,false,true,false,false,false,false]) (rs:= [3,5]) (by kernel_rfl) (by simp);rw[e];rcases aq.1 hi with rfl|hi
 ·skip
  refine LoneTo.goes (n:=1) ?_;simp only[aB,Tryz.f37];s_op
  s_stop
  exact KB b a c d
 ·rw[aj.1 hi]
  refine LoneTo.goes (n:=1) ?_;simp only[aB,Tryz.f37];s_op
  s_stop
  exact KE b a c d
theorem KI(b:w.cell? ⟨pb,0,none⟩=some (.chan (some cb)))(a:w.cell? ⟨tb,1,none⟩=some (.int .i64 id))(c:∀t,LoneTo Tryz.prog Q (G ((base 37).at ⟨#[.pointer (some ⟨pb,0,none⟩),.pointer (some ⟨tb,0,none⟩),u2,u3,u4,u5,u6,u7,u8,u9,u10,u11,u12,u13,u14,u15,u16,u17,u18,u19,u20,u21,u22,.pointer (some ⟨pb,0,none⟩),.pointer (some ⟨pb,0,none⟩),.pointer (some ⟨pb,0,none⟩),.chan (some cb),.pointer (some ⟨tb,0,none⟩),.pointer (some ⟨tb,0,none⟩),.pointer (some ⟨tb,1,none⟩),.int .i64 id],[]⟩ (.inRegion aB (Region.linearise.go .any aB 1 t #[true,true,true,true,true,true,true,true,false] [])::kk)) cs) w)(t:Nat):LoneTo Tryz.prog Q (G ((base 37).at ⟨#[.pointer (some ⟨pb,0,none⟩),.pointer (some ⟨tb,0,none⟩),u2,u3,u4,u5,u6,u7,u8,u9,u10,u11,u12,u13,u14,u15,u16,u17,u18,u19,u20,u21,u22,.pointer (some ⟨pb,0,none⟩),.pointer (some ⟨pb,0,none⟩),undef,undef,.pointer (some ⟨tb,0,none⟩),.pointer (some ⟨tb,0,none⟩),undef,undef],[]⟩ (.inRegion aB (Region.linearise.go .any aB 5 t #[true,true,false,false,true,true,false,false,false] [])::kk)) cs) w:=by
 obtain⟨i,hi,d,e⟩:=ef (md:=.any) (ops:=aB) (fuel:=4) (t:=t) (listed:= #[true,true,false,false,true,true,false,false,false]) (rs:= [2,6]) (by kernel_rfl) (by simp);rw[e];rcases aq.1 hi with rfl|hi
 ·skip
  refine LoneTo.goes (n:=1) ?_;simp only[aB,Tryz.f37];s_op
  s_stop
  exact KE b a c d
 ·rw[aj.1 hi]
  refine LoneTo.goes (n:=1) ?_;simp only[aB,Tryz.f37];s_op
  s_stop
  exact KH b a c d
theorem KM(b:w.cell? ⟨pb,0,none⟩=some (.chan (some cb)))(a:w.cell? ⟨tb,1,none⟩=some (.int .i64 id))(c:∀t,LoneTo Tryz.prog Q (G ((base 37).at ⟨#[.pointer (some ⟨pb,0,none⟩),.pointer (some ⟨tb,0,none⟩),u2,u3,u4,u5,u6,u7,u8,u9,u10,u11,u12,u13,u14,u15,u16,u17,u18,u19,u20,u21,u22,.pointer (some ⟨pb,0,none⟩),.pointer (some ⟨pb,0,none⟩),.pointer (some ⟨pb,0,none⟩),.chan (some cb),.pointer (some ⟨tb,0,none⟩),.pointer (some ⟨tb,0,none⟩),.pointer (some ⟨tb,1,none⟩),.int .i64 id],[]⟩ (.inRegion aB (Region.linearise.go .any aB 1 t #[true,true,true,true,true,true,true,true,false] [])::kk)) cs) w)(t:Nat):LoneTo Tryz.prog Q (G ((base 37).at ⟨#[.pointer (some ⟨pb,0,none⟩),.pointer (some ⟨tb,0,none⟩),u2,u3,u4,u5,u6,u7,u8,u9,u10,u11,u12,u13,u14,u15,u16,u17,u18,u19,u20,u21,u22,.pointer (some ⟨pb,0,none⟩),undef,undef,undef,.pointer (some ⟨tb,0,none⟩),.pointer (some ⟨tb,0,none⟩),.pointer (some ⟨tb,1,none⟩),undef],[]⟩ (.inRegion aB (Region.linearise.go .any aB 5 t #[true,false,false,false,true,true,true,false,false] [])::kk)) cs) w:=by
 obtain⟨i,hi,d,e⟩:=ef (md:=.any) (ops:=aB) (fuel:=4) (t:=t) (listed:= #[true,false,false,false,true,true,true,false,false]) (rs:= [1,7]) (by kernel_rfl) (by simp);rw[e];rcases aq.1 hi with rfl|hi
 ·skip
  refine LoneTo.goes (n:=1) ?_;simp only[aB,Tryz.f37];s_op
  s_stop
  exact KH b a c d
 ·rw[aj.1 hi]
  refine LoneTo.goes (n:=1) ?_;simp only[aB,Tryz.f37];s_op
  s_stop
  exact KL b a c d
theorem Ng(b:w.cell? ⟨pb,0,none⟩=some (.chan (some cb)))(a:w.cell? ⟨tb,1,none⟩=some (.int .i64 id))(c:∀t,LoneTo Tryz.prog Q (G ((base 37).at ⟨#[.pointer (some ⟨pb,0,none⟩),.pointer (some ⟨tb,0,none⟩),u2,u3,u4,u5,u6,u7,u8,u9,u10,u11,u12,u13,u14,u15,u16,u17,u18,u19,u20,u21,u22,.pointer (some ⟨pb,0,none⟩),.pointer (some ⟨pb,0,none⟩),.pointer (some ⟨pb,0,none⟩),.chan (some cb),.pointer (some ⟨tb,0,none⟩),.pointer (some ⟨tb,0,none⟩),.pointer (some ⟨tb,1,none⟩),.int .i64 id],[]⟩ (.inRegion aB (Region.linearise.go .any aB 1 t #[true,true,true,true,true,true,true,true,false] [])::kk)) cs) w)(t:Nat):LoneTo Tryz.prog Q (G ((base 37).at ⟨#[.pointer (some ⟨pb,0,none⟩),.pointer (some ⟨tb,0,none⟩),u2,u3,u4,u5,u6,u7,u8,u9,u10,u11,u12,u13,u14,u15,u16,u17,u18,u19,u20,u21,u22,undef,undef,undef,undef,.pointer (some ⟨tb,0,none⟩),.pointer (some ⟨tb,0,none⟩),.pointer (some ⟨tb,1,none⟩),.int .i64 id],[]⟩ (.inRegion aB (Region.linearise.go .any aB 5 t #[false,false,false,false,true,true,true,true,false] [])::kk)) cs) w:=by
 obtain⟨i,hi,d,e⟩:=ef (md:=.any) (ops:=aB) (fuel:=4) (t:=t) (listed:= #[false,false,false,false,true,true,true,true,false]) (rs:= [0]) (by kernel_rfl) (by simp);rw[e];rw[aj.1 hi];refine LoneTo.goes (n:=1) ?_;simp only[aB,Tryz.f37];s_op
 s_stop
 exact KL b a c d
theorem Nc(b:w.cell? ⟨pb,0,none⟩=some (.chan (some cb)))(a:w.cell? ⟨tb,1,none⟩=some (.int .i64 id))(c:∀t,LoneTo Tryz.prog Q (G ((base 37).at ⟨#[.pointer (some ⟨pb,0,none⟩),.pointer (some ⟨tb,0,none⟩),u2,u3,u4,u5,u6,u7,u8,u9,u10,u11,u12,u13,u14,u15,u16,u17,u18,u19,u20,u21,u22,.pointer (some ⟨pb,0,none⟩),.pointer (some ⟨pb,0,none⟩),.pointer (some ⟨pb,0,none⟩),.chan (some cb),.pointer (some ⟨tb,0,none⟩),.pointer (some ⟨tb,0,none⟩),.pointer (some ⟨tb,1,none⟩),.int .i64 id],[]⟩ (.inRegion aB (Region.linearise.go .any aB 1 t #[true,true,true,true,true,true,true,true,false] [])::kk)) cs) w)(t:Nat):LoneTo Tryz.prog Q (G ((base 37).at ⟨#[.pointer (some ⟨pb,0,none⟩),.pointer (some ⟨tb,0,none⟩),u2,u3,u4,u5,u6,u7,u8,u9,u10,u11,u12,u13,u14,u15,u16,u17,u18,u19,u20,u21,u22,.pointer (some ⟨pb,0,none⟩),.pointer (some ⟨pb,0,none⟩),.pointer (some ⟨pb,0,none⟩),undef,undef,undef,undef,undef],[]⟩ (.inRegion aB (Region.linearise.go .any aB 6 t #[true,true,true,false,false,false,false,false,false] [])::kk)) cs) w:=by
 obtain⟨i,hi,d,e⟩:=ef (md:=.any) (ops:=aB) (fuel:=5) (t:=t) (listed:= #[true,true,true,false,false,false,false,false,false]) (rs:= [3,4]) (by kernel_rfl) (by simp);rw[e];rcases aq.1 hi with rfl|hi
 ·skip
  refine LoneTo.goes (n:=1) ?_;simp only[aB,Tryz.f37];s_op
  s_stop
  exact Nb b a c d
 ·rw[aj.1 hi]
  refine LoneTo.goes (n:=1) ?_;simp only[aB,Tryz.f37];s_op
  s_stop
  exact KF b a c d
theorem KJ(b:w.cell? ⟨pb,0,none⟩=some (.chan (some cb)))(a:w.cell? ⟨tb,1,none⟩=some (.int .i64 id))(c:∀t,LoneTo Tryz.prog Q (G ((base 37).at ⟨#[.pointer (some ⟨pb,0,none⟩),.pointer (some ⟨tb,0,none⟩),u2,u3,u4,u5,u6,u7,u8,u9,u10,u11,u12,u13,u14,u15,u16,u17,u18,u19,u20,u21,u22,.pointer (some ⟨pb,0,none⟩),.pointer (some ⟨pb,0,none⟩),.pointer (some ⟨pb,0,none⟩),.chan (some cb),.pointer (some ⟨tb,0,none⟩),.pointer (some ⟨tb,0,none⟩),.pointer (some ⟨tb,1,none⟩),.int .i64 id],[]⟩ (.inRegion aB (Region.linearise.go .any aB 1 t #[true,true,true,true,true,true,true,true,false] [])::kk)) cs) w)(t:Nat):LoneTo Tryz.prog Q (G ((base 37).at ⟨#[.pointer (some ⟨pb,0,none⟩),.pointer (some ⟨tb,0,none⟩),u2,u3,u4,u5,u6,u7,u8,u9,u10,u11,u12,u13,u14,u15,u16,u17,u18,u19,u20,u21,u22,.pointer (some ⟨pb,0,none⟩),.pointer (some ⟨pb,0,none⟩),undef,undef,.pointer (some ⟨tb,0,none⟩),undef,undef,undef],[]⟩ (.inRegion aB (Region.linearise.go .any aB 6 t #[true,true,false,false,true,false,false,false,false] [])::kk)) cs) w:=by
 obtain⟨i,hi,d,e⟩:=ef (md:=.any) (ops:=aB) (fuel:=5) (t:=t) (listed:= #[true,true,false,false,true,false,false,false,false]) (rs:= [2,5]) (by kernel_rfl) (by simp);rw[e];rcases aq.1 hi with rfl|hi
 ·skip
  refine LoneTo.goes (n:=1) ?_;simp only[aB,Tryz.f37];s_op
  s_stop
  exact KF b a c d
 ·rw[aj.1 hi]
  refine LoneTo.goes (n:=1) ?_;simp only[aB,Tryz.f37];s_op
  s_stop
  exact KI b a c d
theorem KO(b:w.cell? ⟨pb,0,none⟩=some (.chan (some cb)))(a:w.cell? ⟨tb,1,none⟩=some (.int .i64 id))(c:∀t,LoneTo Tryz.prog Q (G ((base 37).at ⟨#[.pointer (some ⟨pb,0,none⟩),.pointer (some ⟨tb,0,none⟩),u2,u3,u4,u5,u6,u7,u8,u9,u10,u11,u12,u13,u14,u15,u16,u17,u18,u19,u20,u21,u22,.pointer (some ⟨pb,0,none⟩),.pointer (some ⟨pb,0,none⟩),.pointer (some ⟨pb,0,none⟩),.chan (some cb),.pointer (some ⟨tb,0,none⟩),.pointer (some ⟨tb,0,none⟩),.pointer (some ⟨tb,1,none⟩),.int .i64 id],[]⟩ (.inRegion aB (Region.linearise.go .any aB 1 t #[true,true,true,true,true,true,true,true,false] [])::kk)) cs) w)(t:Nat):LoneTo Tryz.prog Q (G ((base 37).at ⟨#[.pointer (some ⟨pb,0,none⟩),.pointer (some ⟨tb,0,none⟩),u2,u3,u4,u5,u6,u7,u8,u9,u10,u11,u12,u13,u14,u15,u16,u17,u18,u19,u20,u21,u22,.pointer (some ⟨pb,0,none⟩),undef,undef,undef,.pointer (some ⟨tb,0,none⟩),.pointer (some ⟨tb,0,none⟩),undef,undef],[]⟩ (.inRegion aB (Region.linearise.go .any aB 6 t #[true,false,false,false,true,true,false,false,false] [])::kk)) cs) w:=by
 obtain⟨i,hi,d,e⟩:=ef (md:=.any) (ops:=aB) (fuel:=5) (t:=t) (listed:= #[true,false,false,false,true,true,false,false,false]) (rs:= [1,6]) (by kernel_rfl) (by simp);rw[e];rcases aq.1 hi with rfl|hi
 ·skip
  refine LoneTo.goes (n:=1) ?_;simp only[aB,Tryz.f37];s_op
  s_stop
  exact KI b a c d
 ·rw[aj.1 hi]
  refine LoneTo.goes (n:=1) ?_;simp only[aB,Tryz.f37];s_op
  s_stop
  exact KM b a c d
theorem Nh(b:w.cell? ⟨pb,0,none⟩=some (.chan (some cb)))(a:w.cell? ⟨tb,1,none⟩=some (.int .i64 id))(c:∀t,LoneTo Tryz.prog Q (G ((base 37).at ⟨#[.pointer (some ⟨pb,0,none⟩),.pointer (some ⟨tb,0,none⟩),u2,u3,u4,u5,u6,u7,u8,u9,u10,u11,u12,u13,u14,u15,u16,u17,u18,u19,u20,u21,u22,.pointer (some ⟨pb,0,none⟩),.pointer (some ⟨pb,0,none⟩),.pointer (some ⟨pb,0,none⟩),.chan (some cb),.pointer (some ⟨tb,0,none⟩),.pointer (some ⟨tb,0,none⟩),.pointer (some ⟨tb,1,none⟩),.int .i64 id],[]⟩ (.inRegion aB (Region.linearise.go .any aB 1 t #[true,true,true,true,true,true,true,true,false] [])::kk)) cs) w)(t:Nat):LoneTo Tryz.prog Q (G ((base 37).at ⟨#[.pointer (some ⟨pb,0,none⟩),.pointer (some ⟨tb,0,none⟩),u2,u3,u4,u5,u6,u7,u8,u9,u10,u11,u12,u13,u14,u15,u16,u17,u18,u19,u20,u21,u22,undef,undef,undef,undef,.pointer (some ⟨tb,0,none⟩),.pointer (some ⟨tb,0,none⟩),.pointer (some ⟨tb,1,none⟩),undef],[]⟩ (.inRegion aB (Region.linearise.go .any aB 6 t #[false,false,false,false,true,true,true,false,false] [])::kk)) cs) w:=by
 obtain⟨i,hi,d,e⟩:=ef (md:=.any) (ops:=aB) (fuel:=5) (t:=t) (listed:= #[false,false,false,false,true,true,true,false,false]) (rs:= [0,7]) (by kernel_rfl) (by simp);rw[e];rcases aq.1 hi with rfl|hi
 ·skip
  refine LoneTo.goes (n:=1) ?_;simp only[aB,Tryz.f37];s_op
  s_stop
  exact KM b a c d
 ·rw[aj.1 hi]
  refine LoneTo.goes (n:=1) ?_;simp only[aB,Tryz.f37];s_op
  s_stop
  exact Ng b a c d
theorem Nd(b:w.cell? ⟨pb,0,none⟩=some (.chan (some cb)))(a:w.cell? ⟨tb,1,none⟩=some (.int .i64 id))(c:∀t,LoneTo Tryz.prog Q (G ((base 37).at ⟨#[.pointer (some ⟨pb,0,none⟩),.pointer (some ⟨tb,0,none⟩),u2,u3,u4,u5,u6,u7,u8,u9,u10,u11,u12,u13,u14,u15,u16,u17,u18,u19,u20,u21,u22,.pointer (some ⟨pb,0,none⟩),.pointer (some ⟨pb,0,none⟩),.pointer (some ⟨pb,0,none⟩),.chan (some cb),.pointer (some ⟨tb,0,none⟩),.pointer (some ⟨tb,0,none⟩),.pointer (some ⟨tb,1,none⟩),.int .i64 id],[]⟩ (.inRegion aB (Region.linearise.go .any aB 1 t #[true,true,true,true,true,true,true,true,false] [])::kk)) cs) w)(t:Nat):LoneTo Tryz.prog Q (G ((base 37).at ⟨#[.pointer (some ⟨pb,0,none⟩),.pointer (some ⟨tb,0,none⟩),u2,u3,u4,u5,u6,u7,u8,u9,u10,u11,u12,u13,u14,u15,u16,u17,u18,u19,u20,u21,u22,.pointer (some ⟨pb,0,none⟩),.pointer (some ⟨pb,0,none⟩),undef,undef,undef,undef,undef,undef],[]⟩ (.inRegion aB (Region.linearise.go .any aB 7 t #[true,true,false,false,false,false,false,false,false] [])::kk)) cs) w:=by
 obtain⟨i,hi,d,e⟩:=ef (md:=.any) (ops:=aB) (fuel:=6) (t:=t) (listed:= #[true,true,false,false,false,false,false,false,false]) (rs:= [2,4]) (by kernel_rfl) (by simp);rw[e];rcases aq.1 hi with rfl|hi
 ·skip
  refine LoneTo.goes (n:=1) ?_;simp only[aB,Tryz.f37];s_op
  s_stop
  exact Nc b a c d
 ·rw[aj.1 hi]
  refine LoneTo.goes (n:=1) ?_;simp only[aB,Tryz.f37];s_op
  s_stop
  exact KJ b a c d
theorem KP(b:w.cell? ⟨pb,0,none⟩=some (.chan (some cb)))(a:w.cell? ⟨tb,1,none⟩=some (.int .i64 id))(c:∀t,LoneTo Tryz.prog Q (G ((base 37).at ⟨#[.pointer (some ⟨pb,0,none⟩),.pointer (some ⟨tb,0,none⟩),u2,u3,u4,u5,u6,u7,u8,u9,u10,u11,u12,u13,u14,u15,u16,u17,u18,u19,u20,u21,u22,.pointer (some ⟨pb,0,none⟩),.pointer (some ⟨pb,0,none⟩),.pointer (some ⟨pb,0,none⟩),.chan (some cb),.pointer (some ⟨tb,0,none⟩),.pointer (some ⟨tb,0,none⟩),.pointer (some ⟨tb,1,none⟩),.int .i64 id],[]⟩ (.inRegion aB (Region.linearise.go .any aB 1 t #[true,true,true,true,true,true,true,true,false] [])::kk)) cs) w)(t:Nat):LoneTo Tryz.prog Q (G ((base 37).at ⟨#[.pointer (some ⟨pb,0,none⟩),.pointer (some ⟨tb,0,none⟩),u2,u3,u4,u5,u6,u7,u8,u9,u10,u11,u12,u13,u14,u15,u16,u17,u18,u19,u20,u21,u22,.pointer (some ⟨pb,0,none⟩),undef,undef,undef,.pointer (some ⟨tb,0,none⟩),undef,undef,undef],[]⟩ (.inRegion aB (Region.linearise.go .any aB 7 t #[true,false,false,false,true,false,false,false,false] [])::kk)) cs) w:=by
 obtain⟨i,hi,d,e⟩:=ef (md:=.any) (ops:=aB) (fuel:=6) (t:=t) (listed:= #[true,false,false,false,true,false,false,false,false]) (rs:= [1,5]) (by kernel_rfl) (by simp);rw[e];rcases aq.1 hi with rfl|hi
 ·skip
  refine LoneTo.goes (n:=1) ?_;simp only[aB,Tryz.f37];s_op
  s_stop
  exact KJ b a c d
 ·rw[aj.1 hi]
  refine LoneTo.goes (n:=1) ?_;simp only[aB,Tryz.f37];s_op
  s_stop
  exact KO b a c d
theorem Ni(b:w.cell? ⟨pb,0,none⟩=some (.chan (some cb)))(a:w.cell? ⟨tb,1,none⟩=some (.int .i64 id))(c:∀t,LoneTo Tryz.prog Q (G ((base 37).at ⟨#[.pointer (some ⟨pb,0,none⟩),.pointer (some ⟨tb,0,none⟩),u2,u3,u4,u5,u6,u7,u8,u9,u10,u11,u12,u13,u14,u15,u16,u17,u18,u19,u20,u21,u22,.pointer (some ⟨pb,0,none⟩),.pointer (some ⟨pb,0,none⟩),.pointer (some ⟨pb,0,none⟩),.chan (some cb),.pointer (some ⟨tb,0,none⟩),.pointer (some ⟨tb,0,none⟩),.pointer (some ⟨tb,1,none⟩),.int .i64 id],[]⟩ (.inRegion aB (Region.linearise.go .any aB 1 t #[true,true,true,true,true,true,true,true,false] [])::kk)) cs) w)(t:Nat):LoneTo Tryz.prog Q (G ((base 37).at ⟨#[.pointer (some ⟨pb,0,none⟩),.pointer (some ⟨tb,0,none⟩),u2,u3,u4,u5,u6,u7,u8,u9,u10,u11,u12,u13,u14,u15,u16,u17,u18,u19,u20,u21,u22,undef,undef,undef,undef,.pointer (some ⟨tb,0,none⟩),.pointer (some ⟨tb,0,none⟩),undef,undef],[]⟩ (.inRegion aB (Region.linearise.go .any aB 7 t #[false,false,false,false,true,true,false,false,false] [])::kk)) cs) w:=by
 obtain⟨i,hi,d,e⟩:=ef (md:=.any) (ops:=aB) (fuel:=6) (t:=t) (listed:= #[false,false,false,false,true,true,false,false,false]) (rs:= [0,6]) (by kernel_rfl) (by simp);rw[e];rcases aq.1 hi with rfl|hi
 ·skip
  refine LoneTo.goes (n:=1) ?_;simp only[aB,Tryz.f37];s_op
  s_stop
  exact KO b a c d
 ·rw[aj.1 hi]
  refine LoneTo.goes (n:=1) ?_;simp only[aB,Tryz.f37];s_op
  s_stop
  exact Nh b a c d
theorem Nf(b:w.cell? ⟨pb,0,none⟩=some (.chan (some cb)))(a:w.cell? ⟨tb,1,none⟩=some (.int .i64 id))(c:∀t,LoneTo Tryz.prog Q (G ((base 37).at ⟨#[.pointer (some ⟨pb,0,none⟩),.pointer (some ⟨tb,0,none⟩),u2,u3,u4,u5,u6,u7,u8,u9,u10,u11,u12,u13,u14,u15,u16,u17,u18,u19,u20,u21,u22,.pointer (some ⟨pb,0,none⟩),.pointer (some ⟨pb,0,none⟩),.pointer (some ⟨pb,0,none⟩),.chan (some cb),.pointer (some ⟨tb,0,none⟩),.pointer (some ⟨tb,0,none⟩),.pointer (some ⟨tb,1,none⟩),.int .i64 id],[]⟩ (.inRegion aB (Region.linearise.go .any aB 1 t #[true,true,true,true,true,true,true,true,false] [])::kk)) cs) w)(t:Nat):LoneTo Tryz.prog Q (G ((base 37).at ⟨#[.pointer (some ⟨pb,0,none⟩),.pointer (some ⟨tb,0,none⟩),u2,u3,u4,u5,u6,u7,u8,u9,u10,u11,u12,u13,u14,u15,u16,u17,u18,u19,u20,u21,u22,.pointer (some ⟨pb,0,none⟩),undef,undef,undef,undef,undef,undef,undef],[]⟩ (.inRegion aB (Region.linearise.go .any aB 8 t #[true,false,false,false,false,false,false,false,false] [])::kk)) cs) w:=by
 obtain⟨i,hi,d,e⟩:=ef (md:=.any) (ops:=aB) (fuel:=7) (t:=t) (listed:= #[true,false,false,false,false,false,false,false,false]) (rs:= [1,4]) (by kernel_rfl) (by simp);rw[e];rcases aq.1 hi with rfl|hi
 ·skip
  refine LoneTo.goes (n:=1) ?_;simp only[aB,Tryz.f37];s_op
  s_stop
  exact Nd b a c d
 ·rw[aj.1 hi]
  refine LoneTo.goes (n:=1) ?_;simp only[aB,Tryz.f37];s_op
  s_stop
  exact KP b a c d
theorem Nj(b:w.cell? ⟨pb,0,none⟩=some (.chan (some cb)))(a:w.cell? ⟨tb,1,none⟩=some (.int .i64 id))(c:∀t,LoneTo Tryz.prog Q (G ((base 37).at ⟨#[.pointer (some ⟨pb,0,none⟩),.pointer (some ⟨tb,0,none⟩),u2,u3,u4,u5,u6,u7,u8,u9,u10,u11,u12,u13,u14,u15,u16,u17,u18,u19,u20,u21,u22,.pointer (some ⟨pb,0,none⟩),.pointer (some ⟨pb,0,none⟩),.pointer (some ⟨pb,0,none⟩),.chan (some cb),.pointer (some ⟨tb,0,none⟩),.pointer (some ⟨tb,0,none⟩),.pointer (some ⟨tb,1,none⟩),.int .i64 id],[]⟩ (.inRegion aB (Region.linearise.go .any aB 1 t #[true,true,true,true,true,true,true,true,false] [])::kk)) cs) w)(t:Nat):LoneTo Tryz.prog Q (G ((base 37).at ⟨#[.pointer (some ⟨pb,0,none⟩),.pointer (some ⟨tb,0,none⟩),u2,u3,u4,u5,u6,u7,u8,u9,u10,u11,u12,u13,u14,u15,u16,u17,u18,u19,u20,u21,u22,undef,undef,undef,undef,.pointer (some ⟨tb,0,none⟩),undef,undef,undef],[]⟩ (.inRegion aB (Region.linearise.go .any aB 8 t #[false,false,false,false,true,false,false,false,false] [])::kk)) cs) w:=by
 obtain⟨i,hi,d,e⟩:=ef (md:=.any) (ops:=aB) (fuel:=7) (t:=t) (listed:= #[false,false,false,false,true,false,false,false,false]) (rs:= [0,5]) (by kernel_rfl) (by simp);rw[e];rcases aq.1 hi with rfl|hi
 ·skip
  refine LoneTo.goes (n:=1) ?_;simp only[aB,Tryz.f37];s_op
  s_stop
  exact KP b a c d
 ·rw[aj.1 hi]
  refine LoneTo.goes (n:=1) ?_;simp only[aB,Tryz.f37];s_op
  s_stop
  exact Ni b a c d
theorem Nk(b:w.cell? ⟨pb,0,none⟩=some (.chan (some cb)))(a:w.cell? ⟨tb,1,none⟩=some (.int .i64 id))(c:∀t,LoneTo Tryz.prog Q (G ((base 37).at ⟨#[.pointer (some ⟨pb,0,none⟩),.pointer (some ⟨tb,0,none⟩),u2,u3,u4,u5,u6,u7,u8,u9,u10,u11,u12,u13,u14,u15,u16,u17,u18,u19,u20,u21,u22,.pointer (some ⟨pb,0,none⟩),.pointer (some ⟨pb,0,none⟩),.pointer (some ⟨pb,0,none⟩),.chan (some cb),.pointer (some ⟨tb,0,none⟩),.pointer (some ⟨tb,0,none⟩),.pointer (some ⟨tb,1,none⟩),.int .i64 id],[]⟩ (.inRegion aB (Region.linearise.go .any aB 1 t #[true,true,true,true,true,true,true,true,false] [])::kk)) cs) w)(t:Nat):LoneTo Tryz.prog Q (G ((base 37).at ⟨#[.pointer (some ⟨pb,0,none⟩),.pointer (some ⟨tb,0,none⟩),u2,u3,u4,u5,u6,u7,u8,u9,u10,u11,u12,u13,u14,u15,u16,u17,u18,u19,u20,u21,u22,undef,undef,undef,undef,undef,undef,undef,undef],[]⟩ (.inRegion aB (Region.linearise.go .any aB 9 t #[false,false,false,false,false,false,false,false,false] [])::kk)) cs) w:=by
 obtain⟨i,hi,d,e⟩:=ef (md:=.any) (ops:=aB) (fuel:=8) (t:=t) (listed:= #[false,false,false,false,false,false,false,false,false]) (rs:= [0,4]) (by kernel_rfl) (by simp);rw[e];rcases aq.1 hi with rfl|hi
 ·skip
  refine LoneTo.goes (n:=1) ?_;simp only[aB,Tryz.f37];s_op
  s_stop
  exact Nf b a c d
 ·rw[aj.1 hi]
  refine LoneTo.goes (n:=1) ?_;simp only[aB,Tryz.f37];s_op
  s_stop
  exact Nj b a c d
end
theorem FG{P:Program}{c:Bool}{b:Frame}{a:Act}{k:List Item}{cs:List Frame}{w:World}{id:Nat}{ops:Array Oper}:stepG P c (G (b.at a (.code (.region id ops true)::k)) cs) w=.go (G (b.at a (.inRegion ops (Region.schedule (P.follows .mixedOrders) ops (w.tape w.drawn (.order b.fn id)))::k)) cs) {w with drawn:=w.drawn+1}:=by
 simp[G,stepG,stepG.exec,Frame.at,choose,Sem.run,Question.forced,Question.cut]
set_option maxRecDepth 100000 in
theorem Kh{w:World}{b:Nat}{c:Array Value}{t:TypeId}(i:w.heap[b]? =some (.cells c t (0,0))) (hc:0<c.size):(binOp .neq 39 (.pointer (some ⟨b,0,none⟩)) (.pointer (some ⟨b,0,none⟩))).run Tryz.prog w=.ok (.bool false) w:=by
 have d:Tryz.prog.underlying 39=some (.pointer 130):=by kernel_rfl
 have hz:Nat.beq (bA Tryz.prog 130) 0=false:=by kernel_rfl
 have e:du w.heap ⟨b,0,none⟩:=⟨c,t,i,hc⟩;have h:Ms Tryz.prog 39 true (.pointer (some ⟨b,0,none⟩)) (.pointer (some ⟨b,0,none⟩)) (fun v _=>v=.bool false) w.heap:=by
  unfold Ms;rw[d];simp only[];rw[hz];refine⟨trivial,fun x y hx g=>?_,by simp⟩
  cases hx;cases g;exact⟨e,e⟩
 unfold Ms at h;rw[d]at h;obtain⟨_,a,_⟩:=h;obtain⟨_,_,v,S,j,m,f⟩:=xE (P:=Tryz.prog) (t:=39) (neg:=true) (x:=.pointer (some ⟨b,0,none⟩)) (y:=.pointer (some ⟨b,0,none⟩)) (K:=fun v S=>v=.bool false∧Li S w.heap) (h:=w.heap) (by
  unfold Ms
  rw[d]
  simp only[]
  rw[hz]
  exact⟨trivial,a,by simp,a⟩)
 obtain⟨rfl,k⟩:=j;exact f w k
set_option maxRecDepth 100000 in
set_option maxHeartbeats 4000000 in
theorem Ky{w:World}{pb tb cb cap s r:Nat}{id:Int}{buf:Array Value}(k:w.heap[pb]? =some (.cells #[.chan (some cb)] 130 (0,0))) (b:w.heap[tb]? =some (.cells #[.pointer (some ⟨pb,0,none⟩),.int .i64 id,.bool true] 140 (0,0))) (hc:w.heap[cb]? =some (.chan cap buf false s r false)) (p:buf.size<cap) (g:pb≠tb) (d:cb≠tb):
  Calls Tryz.prog 37 #[.pointer (some ⟨pb,0,none⟩),.pointer (some ⟨tb,0,none⟩)] w fun e w'=>e=.returned (.int .i64 0)∧∃n,w'=({w.setCell ⟨tb,2,none⟩ (.bool false)with drawn:=n}:World).setChan cb cap (buf.push (.int .i64 id)) false (s+1) r false:=by
 refine calls_of_loneTo fun cs=>?_
 have e:Frame.enter Tryz.prog 37 #[.pointer (some ⟨pb,0,none⟩),.pointer (some ⟨tb,0,none⟩)] .normal=(base 37).at ⟨#[.pointer (some ⟨pb,0,none⟩),.pointer (some ⟨tb,0,none⟩),undef,undef,undef,undef,undef,undef,undef,undef,undef,undef,undef,undef,undef,undef,undef,undef,undef,undef,undef,undef,undef,undef,undef,undef,undef,undef,undef,undef,undef],[]⟩ [.code (Tryz.f37.body.getD .skip)]:=by
  simp[Frame.enter,Frame.at,Tryz.func37,base,Tryz.f37]
 rw[e];have q:=tJ b (i:=0) rfl;have v:=tJ b (i:=2) rfl;have o:=II b (i:=2);have u:=Kh k (by simp);refine LoneTo.goes (n:=52) ?_;simp only[Tryz.f37,mQ];s_c stepG_seq
 s_reg
 s_op
 s_c stepG_region_end
 s_c stepG_seq
 s_c stepG_seq
 s_reg
 s_op
 s_op
 s_op
 s_op
 s_call Tryz.func79 (by kernel_rfl) Tryz.f79
 s_c stepG_seq
 s_reg
 s_op
 s_c stepG_region_end
 s_c stepG_seq
 s_reg
 s_op
 s_op
 s_op
 s_op
 s_op
 s_op
 s_op
 s_op
 s_op
 s_c stepG_region_end
 s_c stepG_ret'
 s_leave1 Tryz.func79
 s_op
 s_op
 s_op
 s_op
 s_op
 s_op
 s_op
 s_op
 s_op
 s_op
 s_c stepG_region_end
 s_cond false
 s_c stepG_skip
 s_c stepG_seq
 s_reg
 s_op
 s_op
 s_op
 s_op
 s_c stepG_region_end
 s_c stepG_seq
 s_in
 rw[FG];simp only[goes_go];refine⟨trivial,?_⟩;s_stop
 have hm:Tryz.prog.follows .mixedOrders=true:=Tryz.mixed;simp only[Region.schedule,hm,Bool.true_or,if_true,Region.linearise];have m:=Upd.hset (M:=(· =tb)) w.heap (a:=⟨tb,2,none⟩) (.bool false) rfl
 have j:=m.get k (fun e=>g e)
 have f:=m.get hc (fun e=>d e)
 refine Nk (pb:=pb) (tb:=tb) (cb:=cb) (id:=id) (tJ j (i:=0) rfl) ?_ (fun t=>?_) _
 ·show(w.setCell ⟨tb,2,none⟩ (.bool false)).cell? ⟨tb,1,none⟩=_
  rw[World.cell?_setCell_other _ _ _ _ (by simp)];exact tJ b (i:=1) rfl
 ·obtain⟨i,hi,x,e⟩:=ef (md:=.any) (ops:=aB) (fuel:=0) (t:=t) (listed:= #[true,true,true,true,true,true,true,true,false]) (rs:= [8]) (by kernel_rfl) (by simp)
  rw[e,aj.1 hi];simp only[aB,Tryz.f37,Region.linearise.go,List.reverse_nil];refine LoneTo.step (step_lone_send_room (c:=cb) (cap:=cap) (buf:=buf) (s:=s) (r:=r) (tm:=false) (stepG_comm (cases:= #[scase cb (.int .i64 id) (.tuple #[])]) (blocking:=true) (shape:=.send) (w':={w.setCell ⟨tb,2,none⟩ (.bool false)with drawn:=w.drawn+1}) rfl rfl (by decide) (by simp[execOp,scase,Act.eval])) f p) ?_
  rw[Frame.finish_at];walk_nrm
  refine LoneTo.goes (n:=6) ?_;s_c stepG_region_end
  s_c stepG_seq
  s_reg
  s_op
  s_c stepG_region_end
  s_c stepG_ret'
  s_stop
  refine LoneTo.done ⟨.returned (.int .i64 0),_,rfl,⟨rfl,_,rfl⟩,rfl,rfl,rfl,rfl,_,Tryz.func37,by simp[results,Tryz.f37,Frame.at]⟩
end Go.Proofs
namespace Go.Proofs
open Go.Lift
def L7(s:ByteArray)(i:Nat):Int:=match s[i]? with|some b=>(b.toNat:Int)|none=>0
def Oc(b:Int)(n:Int):Int:=IntKind.wrap .u64 ((IntKind.wrap .u64 b)*2^(min n.toNat (IntKind.bits .u64)))
def wj(s:ByteArray):Nat→Int→Int
 |0,t=>t
 |k+1,t=>wj s k (Kc t (if k=0 then IntKind.wrap .u64 (L7 s 0)else Oc (L7 s k) ((8*k:Nat):Int)))
def yh(s:ByteArray):Int:=wj s s.size 0
theorem pG{s:ByteArray}{i:Nat}(h:i<s.size):∃b,s[i]? =some b∧L7 s i=(b.toNat:Int):=⟨s[i],getElem?_pos s i h,by simp[L7,getElem?_pos s i h]⟩
theorem Hc{s:ByteArray}(D:s.size≤8){h:ad}{K:Int→ad→Prop}(g:K (yh s) h):HC PG rA [.string s] [.c (.int .u64)] K h:=by
 refine GW s ?_;unfold A7;refine Join.intro (fun t f=>f=h∧1≤s.size∧wj s 1 t=wj s s.size 0) (fun F o=>?_) ?_
 ·refine Join.intro (fun t f=>f=h∧2≤s.size∧wj s 2 t=wj s s.size 0) (fun H m=>?_) ?_
  ·refine Join.intro (fun t f=>f=h∧3≤s.size∧wj s 3 t=wj s s.size 0) (fun N p=>?_) ?_
   ·refine Join.intro (fun t f=>f=h∧4≤s.size∧wj s 4 t=wj s s.size 0) (fun R4 k=>?_) ?_
    ·refine Join.intro (fun t f=>f=h∧5≤s.size∧wj s 5 t=wj s s.size 0) (fun E q=>?_) ?_
     ·refine Join.intro (fun t f=>f=h∧6≤s.size∧wj s 6 t=wj s s.size 0) (fun M n=>?_) ?_
      ·refine Join.intro (fun t f=>f=h∧7≤s.size∧wj s 7 t=wj s s.size 0) (fun G j=>?_) ?_
       ·refine CondP.intro (fun e=>?_) fun w=>?_
        ·have e:s.size=8:=by have:=of_decide_eq_true (by simpa using e:decide ((s.size:Int)=8)=true);omega
         obtain⟨b,a,hv⟩:=pG (s:=s) (i:=7) (by omega);refine⟨b,by decide,a,by decide,j _ _ ⟨rfl,by omega,?_⟩⟩
         rw[e,←hv];rfl
        refine CondP.intro (fun e=>?_) fun z=>?_
        ·have e:s.size=7:=by have:=of_decide_eq_true (by simpa using e:decide ((s.size:Int)=7)=true);omega
         exact j _ _ ⟨rfl,by omega,by rw[e]⟩
        refine CondP.intro (fun e=>?_) fun x=>?_
        ·have e:s.size=6:=by have:=of_decide_eq_true (by simpa using e:decide ((s.size:Int)=6)=true);omega
         exact n _ _ ⟨rfl,by omega,by rw[e]⟩
        refine CondP.intro (fun e=>?_) fun v=>?_
        ·have e:s.size=5:=by have:=of_decide_eq_true (by simpa using e:decide ((s.size:Int)=5)=true);omega
         exact q _ _ ⟨rfl,by omega,by rw[e]⟩
        refine CondP.intro (fun e=>?_) fun u=>?_
        ·have e:s.size=4:=by have:=of_decide_eq_true (by simpa using e:decide ((s.size:Int)=4)=true);omega
         exact k _ _ ⟨rfl,by omega,by rw[e]⟩
        refine CondP.intro (fun e=>?_) fun y=>?_
        ·have e:s.size=3:=by have:=of_decide_eq_true (by simpa using e:decide ((s.size:Int)=3)=true);omega
         exact p _ _ ⟨rfl,by omega,by rw[e]⟩
        refine CondP.intro (fun e=>?_) fun B=>?_
        ·have e:s.size=2:=by have:=of_decide_eq_true (by simpa using e:decide ((s.size:Int)=2)=true);omega
         exact m _ _ ⟨rfl,by omega,by rw[e]⟩
        refine CondP.intro (fun e=>?_) fun A=>?_
        ·have e:s.size=1:=by have:=of_decide_eq_true (by simpa using e:decide ((s.size:Int)=1)=true);omega
         exact o _ _ ⟨rfl,by omega,by rw[e]⟩
        have e:s.size=0:=by
         have I:¬(s.size:Int)=1:=by simpa using A
         have J:¬(s.size:Int)=2:=by simpa using B
         have O:¬(s.size:Int)=3:=by simpa using y
         have q4:¬(s.size:Int)=4:=by simpa using u
         have P:¬(s.size:Int)=5:=by simpa using v
         have Q:¬(s.size:Int)=6:=by simpa using x
         have C:¬(s.size:Int)=7:=by simpa using z
         have L:¬(s.size:Int)=8:=by simpa using w
         omega
        unfold yh at g;rw[e]at g;exact g
       ·rintro t _ ⟨rfl,c,d⟩
        obtain⟨b,a,hv⟩:=pG (s:=s) (i:=6) (by omega);refine⟨b,by decide,a,by decide,n _ _ ⟨rfl,by omega,?_⟩⟩
        rw[←d,←hv];rfl
      ·rintro t _ ⟨rfl,c,d⟩
       obtain⟨b,a,hv⟩:=pG (s:=s) (i:=5) (by omega);refine⟨b,by decide,a,by decide,q _ _ ⟨rfl,by omega,?_⟩⟩
       rw[←d,←hv];rfl
     ·rintro t _ ⟨rfl,c,d⟩
      obtain⟨b,a,hv⟩:=pG (s:=s) (i:=4) (by omega);refine⟨b,by decide,a,by decide,k _ _ ⟨rfl,by omega,?_⟩⟩
      rw[←d,←hv];rfl
    ·rintro t _ ⟨rfl,c,d⟩
     obtain⟨b,a,hv⟩:=pG (s:=s) (i:=3) (by omega);refine⟨b,by decide,a,by decide,p _ _ ⟨rfl,by omega,?_⟩⟩
     rw[←d,←hv];rfl
   ·rintro t _ ⟨rfl,c,d⟩
    obtain⟨b,a,hv⟩:=pG (s:=s) (i:=2) (by omega);refine⟨b,by decide,a,by decide,m _ _ ⟨rfl,by omega,?_⟩⟩
    rw[←d,←hv];rfl
  ·rintro t _ ⟨rfl,c,d⟩
   obtain⟨b,a,hv⟩:=pG (s:=s) (i:=1) (by omega);refine⟨b,by decide,a,by decide,o _ _ ⟨rfl,by omega,?_⟩⟩
   rw[←d,←hv];rfl
 ·rintro t _ ⟨rfl,c,d⟩
  obtain⟨b,a,hv⟩:=pG (s:=s) (i:=0) (by omega);refine⟨b,by decide,a,?_⟩
  unfold yh at g;rw[←d]at g;rw[←hv];exact g
end Go.Proofs
namespace Go.Proofs
open Go.Lift
def zN(m:Int)(s:Q4):Q4:=
 let r:=lM 2 (s.1,s.2.1,s.2.2.1,eT s.2.2.2 m)
 (eT r.1 m,r.2)
theorem Hh{m:Int}{h:ad}{b:Nat}{t:TypeId}{s:Q4}(d:h[b]? =some (.cells (q4 s) t (0,0))) {K:Unit→ad→Prop}
  (f:∀h',h'[b]? =some (.cells (q4 (zN m s)) t (0,0))→Upd (· =b) h h'→K () h'):HC PG jQ [.pointer (some ⟨b,0,none⟩),.int .u64 m] [] K h:=by
 refine xS _ _ ?_;unfold qP dC fH c8 ld;have c:∀{h:ad} {s:Q4} {i:Nat},h[b]? =some (.cells (q4 s) t (0,0))→aG h ⟨b,0+i,none⟩=(q4 s)[i]?:=fun d=>by rw[aD];exact aS d
 have w:∀{h:ad} {s:Q4} {i:Nat},h[b]? =some (.cells (q4 s) t (0,0))→i<4→Wr h ⟨b,0+i,none⟩:=fun d hi=>by rw[aD];exact gM d hi
 simp only[show((0:Int)).toNat*1=0 from rfl,show((3:Int)).toNat*1=3 from rfl]
 refine⟨_,rfl,by decide,_,c (i:=3) d,_,rfl,by decide,w (i:=3) d (by decide),mF (s':=(s.1,s.2.1,s.2.2.1,eT s.2.2.2 m)) d rfl fun v e o=>?_⟩
 refine B8 (n:=2) (by omega) e fun u a k=>?_
 have p:zN m s=(eT (lM 2 (s.1,s.2.1,s.2.2.1,eT s.2.2.2 m)).1 m,(lM 2 (s.1,s.2.1,s.2.2.1,eT s.2.2.2 m)).2):=by unfold zN;rfl
 rw[p]at f;generalize lM 2 (s.1,s.2.1,s.2.2.1,eT s.2.2.2 m)=r at a f;refine⟨_,rfl,by decide,_,c (i:=0) a,_,rfl,by decide,w (i:=0) a (by decide),mF (s':=(eT r.1 m,r.2)) a rfl fun q g j=>?_⟩
 exact f _ g (o.tr (k.tr j))
def zR:Nat→ByteArray→Q4→ByteArray×Q4
 |0,s,q=>(s,q)
 |n+1,s,q=>if 8≤s.size then zR n (s.extract 8 s.size) (zN (yh (s.extract 0 8)) q)else(s,q)
def N4(r:Q4):Int:=eT (eT (eT r.1 r.2.1) r.2.2.1) r.2.2.2
def N3(q:Q4):Int:=N4 (lM 4 (q.1,q.2.1,eT q.2.2.1 255,q.2.2.2))
def Ol(n:Nat)(g:ByteArray×Q4):Int:=N3 (zN (Kc (yh g.1) (Oc (n:Int) 56)) g.2)
def LF(k0 k1:Int)(s:ByteArray):Int:=
 Ol s.size (zR s.size s (eT k0 8317987319222330741,eT k1 7237128888997146477,eT k0 7816392313619706465,eT k1 8387220255154660723))
theorem L2{a:ad}{b:Nat}{t:TypeId}{r:Q4}(f:a[b]? =some (.cells (q4 r) t (0,0))) {K:Int→Prop} (g:K (N4 r)):
  (((0:Int)≤(0:Int)∧(0:Int)<((4:Nat):Int))∧
   ∃v30:Int,aG a (adr ⟨b,0,none⟩ ((0:Int).toNat*1))=some (.int .u64 v30)∧
   (((0:Int)≤(1:Int)∧(1:Int)<((4:Nat):Int))∧
    ∃v31:Int,aG a (adr ⟨b,0,none⟩ ((1:Int).toNat*1))=some (.int .u64 v31)∧
    Bd (IntKind.wrap .u64 (ai (IntKind.bits .u64) v30^^^ai (IntKind.bits .u64) v31).toNat:Int) (fun n32=>
     (((0:Int)≤(2:Int)∧(2:Int)<((4:Nat):Int))∧
      ∃v33:Int,aG a (adr ⟨b,0,none⟩ ((2:Int).toNat*1))=some (.int .u64 v33)∧
      Bd (IntKind.wrap .u64 (ai (IntKind.bits .u64) n32^^^ai (IntKind.bits .u64) v33).toNat:Int) (fun e=>
       (((0:Int)≤(3:Int)∧(3:Int)<((4:Nat):Int))∧
        ∃v35:Int,aG a (adr ⟨b,0,none⟩ ((3:Int).toNat*1))=some (.int .u64 v35)∧
        Bd (IntKind.wrap .u64 (ai (IntKind.bits .u64) e^^^ai (IntKind.bits .u64) v35).toNat:Int) (fun d=>
         K d))))))):=by
 have c:∀{i:Nat},aG a ⟨b,0+i,none⟩=(q4 r)[i]?:=by intro i;rw[aD];exact aS f
 exact⟨by decide,_,c (i:=0),by decide,_,c (i:=1),by decide,_,c (i:=2),by decide,_,c (i:=3),g⟩
theorem L1{a:ad}{b:Nat}{t:TypeId}{q:Q4}(e:a[b]? =some (.cells (q4 q) t (0,0))) {K:Unit→ad→Prop}
  (p:∀h',h'[b]? =some (.cells (q4 (lM 4 (q.1,q.2.1,eT q.2.2.1 255,q.2.2.2))) t (0,0))→Upd (· =b) a h'→K () h'):
  (((0:Int)≤(2:Int)∧(2:Int)<((4:Nat):Int))∧
   ∃v25:Int,aG a (adr ⟨b,0,none⟩ ((2:Int).toNat*1))=some (.int .u64 v25)∧
   Bd (IntKind.wrap .u64 (ai (IntKind.bits .u64) v25^^^ai (IntKind.bits .u64) 255).toNat:Int) (fun f=>
    (((0:Int)≤(2:Int)∧(2:Int)<((4:Nat):Int))∧
     (Wr a (adr ⟨b,0,none⟩ ((2:Int).toNat*1))∧
      At (hset a (adr ⟨b,0,none⟩ ((2:Int).toNat*1)) (.int .u64 f)) (fun d=>
       HC PG ge [.pointer (some ⟨b,0,none⟩),.int .i64 4] [] K d))))):=by
 have c:∀{i:Nat},aG a ⟨b,0+i,none⟩=(q4 q)[i]?:=by intro i;rw[aD];exact aS e
 refine⟨by decide,_,c (i:=2),by decide,by rw[show((2:Int)).toNat*1=2 from rfl,bG];exact gM e (by simp[q4]),?_⟩
 refine mF (s':=(q.1,q.2.1,eT q.2.2.1 255,q.2.2.2)) e rfl fun s m k=>?_
 exact B8 (n:=4) (by omega) m fun o g j=>p o g (k.tr j)
theorem bK{h:ad}{k:ad→Prop}(a:k h):At h k:=a
theorem MM{k0 k1:Int}{s:ByteArray}{h:ad}{K:Int→ad→Prop}(B:∀p,Upd No h p→K (LF k0 k1 s) p):HC PG xA [.agg #[.int .u64 k0,.int .u64 k1],.string s] [.c (.int .u64)] K h:=by
 refine Jc (k0,k1) s ?_;unfold CH dC fH af nv c8 ld NT ND NI Lv;have t:=Upd.hnew No h [.int .u64 k0,.int .u64 k1] iW;have b1:=cu h [.int .u64 k0,.int .u64 k1] iW;have E:=jP h [.int .u64 k0,.int .u64 k1] iW;refine bK ?_;simp only[fy h];generalize hnew h [.int .u64 k0,.int .u64 k1] iW=h1 at t b1 E;refine⟨k0,by rw[bG,aS b1];rfl,k1,by rw[bG,aS b1];rfl,k0,by rw[bG,aS b1];rfl,k1,by rw[bG,aS b1];rfl,?_⟩
 have L:=Upd.hnew No h1 [.int .u64 0,.int .u64 0,.int .u64 0,.int .u64 0] gD;have b2:=cu h1 [.int .u64 0,.int .u64 0,.int .u64 0,.int .u64 0] gD;simp only[fy h1];simp only[Bd];refine bK ?_;refine⟨.inr ⟨_,rfl,fun j M=>by rw[bG];exact gM b2 (by simp at M⊢;omega)⟩,?_⟩
 refine bK ?_;rw[gw _ _ 0 0 _ b2 (by simp)];have b3:=ix (o:=.cells (q4 (eT k0 8317987319222330741,eT k1 7237128888997146477,eT k0 7816392313619706465,eT k1 8387220255154660723)) gD (0,0)) b2;have N:Upd No h _:=t.tr (L.trans (M':=(· =h1.size)) (Upd.set (hnew h1 [.int .u64 0,.int .u64 0,.int .u64 0,.int .u64 0] gD) (.cells (q4 (eT k0 8317987319222330741,eT k1 7237128888997146477,eT k0 7816392313619706465,eT k1 8387220255154660723)) gD (0,0)) rfl) fun b a=>.inr (Nat.le_of_eq a.symm))
 refine LoopP.ghost (fun(g:Nat×Q4) (d:ByteArray) p=>d.size≤g.1∧p[h1.size]? =some (.cells (q4 g.2) gD (0,0))∧Upd No h p∧zR g.1 d g.2=zR s.size s (eT k0 8317987319222330741,eT k1 7237128888997146477,eT k0 7816392313619706465,eT k1 8387220255154660723)) (fun g=>g.1) (s.size,_)
  ⟨Nat.le_refl _,b3,N,rfl⟩ ?_
 rintro I ⟨n,q⟩ d p ⟨F,a,D,u⟩ H;simp only at F a u;have k:∀b,b=h1.size→No b∨h.size≤b:=fun b a=>.inr (by omega)
 refine bj (fun v=>?_) fun x=>?_
 ·have v:8≤d.size:=by omega
  cases n with
  |zero=>omega
  |succ n=>
   refine⟨by omega,Hc (by rw[mo];show min 8 _-0≤8;omega) (Hh a fun G e f=>⟨by omega,?_⟩)⟩
   have J:((8:Int)).toNat=8:=rfl;rw[J]at e⊢;refine H (n,zN (yh (d.extract 0 8)) q) _ _ ⟨by simp only[mo];omega,e,D.trans f k,?_⟩ (by simp only;omega);rw[←u];simp only[zR,if_pos v]
 ·have x:d.size<8:=by omega
  have u:(d,q)=zR s.size s (eT k0 8317987319222330741,eT k1 7237128888997146477,eT k0 7816392313619706465,eT k1 8387220255154660723):=by
   rw[←u];cases n with
   |zero=>rfl
   |succ n=>simp only[zR,if_neg (show ¬8≤d.size by omega)]
  have c:∀{h:ad} {s:Q4} {i:Nat},h[h1.size]? =some (.cells (q4 s) gD (0,0))→aG h ⟨h1.size,0+i,none⟩=(q4 s)[i]?:=fun a=>by rw[aD];exact aS a
  have w:∀{h:ad} {s:Q4} {i:Nat},h[h1.size]? =some (.cells (q4 s) gD (0,0))→i<4→Wr h ⟨h1.size,0+i,none⟩:=fun a hi=>by rw[aD];exact gM a hi
  have A:LF k0 k1 s=N3 (zN (Kc (yh d) (Oc (s.size:Int) 56)) q):=by unfold LF;rw[←u];rfl
  rw[A]at B;refine Hc (by omega) ⟨by decide,Hh (m:=Kc (yh d) (Oc (s.size:Int) 56)) a fun G e f=>?_⟩
  refine L1 e fun C z y=>L2 (K:=fun n=>K n C) z ?_
  exact B C ((D.trans f k).trans y k)
structure Hs where
 k0:Int
 k1:Int
 mask:Int
def lG(h:Hs)(s:ByteArray):Int:=Ld (LF h.k0 h.k1 s) h.mask
theorem rv{x:Hs}{s:ByteArray}{h:ad}{K:Int→ad→Prop}(c:∀h',Upd No h h'→K (lG x s) h'):HC PG dw [.agg #[.int .u64 x.k0,.int .u64 x.k1,.int .u64 x.mask],.string s] [.c (.int .u64)] K h:=by
 refine wG (x.k0,x.k1,x.mask) s ?_;unfold pN af cE Ai NM;have a:=Upd.hnew No h [.int .u64 x.k0,.int .u64 x.k1,.int .u64 x.mask] bW;have b1:=cu h [.int .u64 x.k0,.int .u64 x.k1,.int .u64 x.mask] bW;simp only[At,fy h];generalize hnew h [.int .u64 x.k0,.int .u64 x.k1,.int .u64 x.mask] bW=h1 at a b1;refine⟨x.k0,by rw[bG,bG,aS b1];rfl,x.k1,by rw[bG,bG,aS b1];rfl,x.mask,by rw[bG,aS b1];rfl,?_⟩
 refine MM fun d b=>⟨by rw[bG,aS (b.get0 b1)];rfl,c _ (a.tr b)⟩
theorem ES(x:Hs)(s:ByteArray):0≤lG x s∧lG x s<18446744073709551616:=Fz _
end Go.Proofs
