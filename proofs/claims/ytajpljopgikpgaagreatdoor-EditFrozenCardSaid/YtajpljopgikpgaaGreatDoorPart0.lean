/- A part of the proof that the named laws of this program answer true, whatever the input. -/
import Derived.Test.YtajpljopgikpgaaGreatDoorTreeF0
import Derived.Test.YtajpljopgikpgaaGreatDoorTreeF1
import Derived.Test.YtajpljopgikpgaaGreatDoorTreeF2
import Derived.Test.YtajpljopgikpgaaGreatDoorLaw0
import Derived.Conc.LoneSelect
import Derived.KernelRfl
import Derived.Laws.Rows
open BitVec renaming ofInt→aq
open ByteArray renaming size_extract→eE
open List renaming range→cQ,mem_singleton→au,mem_cons→aA
open Nat renaming zero_add→aL
open Option renaming getD_some→mV
namespace Go.Proofs
open Go.Lift
theorem Bs(n:Int):0≤IntKind.wrap .u64 n∧IntKind.wrap .u64 n<18446744073709551616:=by rw[IntKind.wrap_u64];omega
theorem oD{x:Int}(h: -4611686018427387904≤x∧x≤4611686018427387904):IntKind.wrap .i64 x=x:=Go.IntWalk.i64_in _ (by omega)
theorem cI{i n:Nat}(h:i<n)(a:n≤4611686018427387904):IntKind.wrap .i64 ((i:Int)+1)=((i+1:Nat):Int):=by rw[oD (by omega)];omega
theorem vq{h:ad}{b i:Nat}{c:Array Value}{t:TypeId}{v:Value}{k:ad→Prop}(a:h[b]? =some (.cells c t (0,0)))
  (d:∀h',h'[b]? =some (.cells (c.setIfInBounds i v) t (0,0))→Upd (· =b) h h'→k h'):At (hset h ⟨b,i,none⟩ v) k:=by
 refine d _ ?_ (Upd.hset _ _ rfl);rw[EI a,jK a]
def KP(a b:Int):Int:=IntKind.wrap .u64 (aq (IntKind.bits .u64) a&&&aq (IntKind.bits .u64) b).toNat
def dy(a b:Int):Int:=IntKind.wrap .u64 (aq (IntKind.bits .u64) a^^^aq (IntKind.bits .u64) b).toNat
def Eu(a b:Int):Int:=IntKind.wrap .u64 (aq (IntKind.bits .u64) a|||aq (IntKind.bits .u64) b).toNat
def Eg(x n:Int):Int:=
 Eu (IntKind.wrap .u64 (x*2^(min (KP (IntKind.wrap .u64 n) 63).toNat (IntKind.bits .u64)))) (Int.fdiv x (2^(min (IntKind.wrap .u64 (64-KP (IntKind.wrap .u64 n) 63)).toNat (IntKind.bits .u64))))
theorem Bx{x n:Int}{h:ad}{K:Int→ad→Prop}(a:K (Eg x n) h):HC PG dq [.int .u64 x,.int .i64 n] [.c (.int .u64)] K h:=by
 refine tP x n ?_;unfold nD;exact⟨(Bs _).1,(Bs _).1,a⟩
abbrev Q4:=Int×Int×Int×Int
def q4(s:Q4):Array Value:= #[.int .u64 s.1,.int .u64 s.2.1,.int .u64 s.2.2.1,.int .u64 s.2.2.2]
def R8(a b:Int):Int:=IntKind.wrap .u64 (a+b)
def Sx(s:Q4):Q4:=(R8 s.1 s.2.1,s.2)
def S8(s:Q4):Q4:=(s.1,dy (Eg s.2.1 13) s.1,s.2.2)
def TZ(s:Q4):Q4:=(Eg s.1 32,s.2)
def UE(s:Q4):Q4:=(s.1,s.2.1,R8 s.2.2.1 s.2.2.2,s.2.2.2)
def Vv(s:Q4):Q4:=(s.1,s.2.1,s.2.2.1,dy (Eg s.2.2.2 16) s.2.2.1)
def VQ(s:Q4):Q4:=(R8 s.1 s.2.2.2,s.2)
def Wk(s:Q4):Q4:=(s.1,s.2.1,s.2.2.1,dy (Eg s.2.2.2 21) s.1)
def WE(s:Q4):Q4:=(s.1,s.2.1,R8 s.2.2.1 s.2.1,s.2.2.2)
def s09(s:Q4):Q4:=(s.1,dy (Eg s.2.1 17) s.2.2.1,s.2.2)
def s10(s:Q4):Q4:=(s.1,s.2.1,Eg s.2.2.1 32,s.2.2.2)
def kG(s:Q4):Q4:=s10 (s09 (WE (Wk (VQ (Vv (UE (TZ (S8 (Sx s)))))))))
def oG:Nat→Q4→Q4
 |0,s=>s
 |n+1,s=>oG n (kG s)
theorem py{h:ad}{b i:Nat}{t:TypeId}{s s':Q4}{v:Value}{k:ad→Prop}(g:h[b]? =some (.cells (q4 s) t (0,0))) (e:(q4 s).setIfInBounds i v=q4 s')
  (d:∀a,a[b]? =some (.cells (q4 s') t (0,0))→Upd (· =b) h a→k a):At (hset h ⟨b,i,none⟩ v) k:=
 vq g fun a c f=>d a (e▸c) f
theorem GR{n:Nat}(X:n≤100){h:ad}{b:Nat}{t:TypeId}{s:Q4}(C:h[b]? =some (.cells (q4 s) t (0,0))) {K:Unit→ad→Prop}
  (P:∀v,v[b]? =some (.cells (q4 (oG n s)) t (0,0))→Upd (· =b) h v→K () v):HC PG iS [.pointer (some ⟨b,0,none⟩),.int .i64 n] [] K h:=by
 refine y8 _ _ ?_;unfold rO bJ dH cp lR;refine LoopP.ghost (fun(g:Nat×Q4) (R:Int) v=>R=(g.1:Int)∧g.1≤n∧v[b]? =some (.cells (q4 g.2) t (0,0))∧Upd (· =b) h v∧oG (n-g.1) g.2=oG n s) (fun g=>n-g.1) (0,s) ⟨rfl,Nat.zero_le _,C,Upd.refl _ _,rfl⟩ ?_
 rintro I ⟨i,s1⟩ R v ⟨O,hi,a,Q,z⟩ S;simp only at O hi a z;subst O;refine aQ (fun y=>?_) fun T=>?_
 ·have y:i<n:=by omega
  have c:∀{h:ad} {s:Q4} {i:Nat},h[b]? =some (.cells (q4 s) t (0,0))→aR h ⟨b,0+i,none⟩=(q4 s)[i]?:=fun C=>by rw[aL];exact bA C
  have w:∀{h:ad} {s:Q4} {i:Nat},h[b]? =some (.cells (q4 s) t (0,0))→i<4→Wr h ⟨b,0+i,none⟩:=fun C hi=>by rw[aL];exact iv C hi
  simp only[show((0:Int)).toNat*1=0 from rfl,show((1:Int)).toNat*1=1 from rfl,show((2:Int)).toNat*1=2 from rfl,show((3:Int)).toNat*1=3 from rfl]
  refine⟨_,rfl,by decide,_,c (i:=0) a,_,rfl,by decide,_,c (i:=1) a,_,rfl,by decide,w (i:=0) a (by decide),py (s':=Sx s1) a rfl fun h2 d G=>?_⟩
  refine⟨_,rfl,by decide,_,c (i:=1) d,_,rfl,by decide,_,c (i:=0) d,_,rfl,Bx ⟨c (i:=0) d,by decide,w (i:=1) d (by decide),py (s':=S8 (Sx s1)) d rfl fun h3 u L=>?_⟩⟩
  refine⟨_,rfl,by decide,_,c (i:=0) u,_,rfl,Bx ⟨by decide,w (i:=0) u (by decide),py (s':=TZ (S8 (Sx s1))) u rfl fun h4 p J=>?_⟩⟩
  refine⟨_,rfl,by decide,_,c (i:=2) p,_,rfl,by decide,_,c (i:=3) p,_,rfl,by decide,w (i:=2) p (by decide),py (s':=UE (TZ (S8 (Sx s1)))) p rfl fun Y k N=>?_⟩
  refine⟨_,rfl,by decide,_,c (i:=3) k,_,rfl,by decide,_,c (i:=2) k,_,rfl,Bx ⟨c (i:=2) k,by decide,w (i:=3) k (by decide),py (s':=Vv (UE (TZ (S8 (Sx s1))))) k rfl fun h6 o F=>?_⟩⟩
  refine⟨_,rfl,by decide,_,c (i:=0) o,_,rfl,by decide,_,c (i:=3) o,_,rfl,by decide,w (i:=0) o (by decide),py (s':=VQ (Vv (UE (TZ (S8 (Sx s1)))))) o rfl fun Z j H=>?_⟩
  refine⟨_,rfl,by decide,_,c (i:=3) j,_,rfl,by decide,_,c (i:=0) j,_,rfl,Bx ⟨c (i:=0) j,by decide,w (i:=3) j (by decide),py (s':=Wk (VQ (Vv (UE (TZ (S8 (Sx s1))))))) j rfl fun h8 q M=>?_⟩⟩
  refine⟨_,rfl,by decide,_,c (i:=2) q,_,rfl,by decide,_,c (i:=1) q,_,rfl,by decide,w (i:=2) q (by decide),py (s':=WE (Wk (VQ (Vv (UE (TZ (S8 (Sx s1)))))))) q rfl fun h9 f E=>?_⟩
  refine⟨_,rfl,by decide,_,c (i:=1) f,_,rfl,by decide,_,c (i:=2) f,_,rfl,Bx ⟨c (i:=2) f,by decide,w (i:=1) f (by decide),py (s':=s09 (WE (Wk (VQ (Vv (UE (TZ (S8 (Sx s1))))))))) f rfl fun W m A=>?_⟩⟩
  refine⟨_,rfl,by decide,_,c (i:=2) m,_,rfl,Bx ⟨by decide,w (i:=2) m (by decide),py (s':=kG s1) m rfl fun V D B=>?_⟩⟩
  rw[cI y (by omega)];refine S (i+1,kG s1) _ _ ⟨rfl,y,D,Q.tr (G.tr (L.tr (J.tr (N.tr (F.tr (H.tr (M.tr (E.tr (A.tr B))))))))),?_⟩ (by simp only;omega);simp only;rw[←z,show n-i=(n-(i+1))+1 by omega];rfl
 ·obtain rfl:i=n:=by omega
  rw[Nat.sub_self]at z;have z:s1=oG i s:=z;rw[←z]at P;exact P _ a Q
end Go.Proofs
namespace Go.Proofs
open Go Go.Lift Go.Conc Go.RowKit
theorem vo{w:World}{b i:Nat}{c:Array Value}{t:TypeId}{v:Value}(h:w.heap[b]? =some (.cells c t (0,0))) (hv:c[i]? =some v):w.cell? ⟨b,i,none⟩=some v:=by
 simp only[World.cell?,h];exact hv
theorem Pm{w:World}{b i:Nat}{c:Array Value}{t:TypeId}(h:w.heap[b]? =some (.cells c t (0,0))):w.frozen? ⟨b,i,none⟩=false:=by
 simp only[World.frozen?,h];simp
set_option maxRecDepth 100000 in
theorem OG{w:World}{pb cb cap s r:Nat}{i:Int}{a:List Value}(d:w.heap[pb]? =some (.cells #[.chan (some cb)] 130 (0,0))) (hc:w.heap[cb]? =some (.chan cap (Value.int .i64 i::a).toArray false s r false)):
  Calls Tryz.prog 33 #[.pointer (some ⟨pb,0,none⟩)] w fun e w'=>e=.returned (.tuple #[.pointer (some ⟨w.heap.size,0,none⟩),.int .i64 0])∧w'=((w.setChan cb cap a.toArray false s (r+1) false).alloc (.cells #[.pointer (some ⟨pb,0,none⟩),.int .i64 i,.bool true] 140 (0,0))):=by
 refine calls_of_loneTo fun cs=>?_
 have e:Frame.enter Tryz.prog 33 #[.pointer (some ⟨pb,0,none⟩)] .normal=(base 33).at ⟨#[.pointer (some ⟨pb,0,none⟩),undef,undef,undef,undef,undef,undef,undef,undef,undef,undef,undef,undef,undef,undef,undef,undef,undef,undef],[]⟩ [.code (Tryz.f33.body.getD .skip)]:=by
  simp[Frame.enter,Frame.at,Tryz.func33,base,Tryz.f33]
 rw[e];have aR:=vo d (i:=0) rfl;have b:(Value.int .i64 i::a).toArray.extract 1 (Value.int .i64 i::a).toArray.size=a.toArray:=by simp
 refine LoneTo.goes (n:=22) ?_;simp only[Tryz.f33,mV];s_c stepG_seq
 s_reg
 s_op
 s_op
 s_c stepG_region_end
 s_c stepG_seq
 s_c stepG_seq
 s_reg
 s_op
 s_op
 s_c stepG_region_end
 s_cond false
 s_c stepG_skip
 s_c stepG_seq
 s_reg
 s_op
 s_op
 s_op
 s_op
 s_c stepG_region_end
 s_c stepG_seq
 s_reg
 s_stop
 refine LoneTo.step (step_lone_select_recv_buf (c:=cb) (z:=.int .i64 0) (stepG_comm (cases:= #[rcase cb (.int .i64 0)]) (blocking:=false) (shape:=.select) (w':=w) rfl rfl (by decide) (by simp[go_sem,execOp,rcase,Act.eval])) hc (by simp)) ?_;rw[b];rw[Frame.finish_at];walk_nrm
 refine LoneTo.goes (n:=20) ?_;s_op
 s_op
 s_c stepG_region_end
 s_c stepG_block
 s_cond true
 s_c stepG_seq
 s_reg
 s_op
 s_op
 s_c stepG_region_end
 s_c stepG_seq
 s_reg
 s_op
 s_op
 s_op
 s_op
 s_op
 s_op
 s_c stepG_region_end
 s_c stepG_ret'
 s_stop
 refine LoneTo.done ⟨.returned (.tuple #[.pointer (some ⟨w.heap.size,0,none⟩),.int .i64 0]),_,rfl,⟨rfl,rfl⟩,rfl,rfl,rfl,rfl,_,Tryz.func33,by simp[results,Tryz.f33,Frame.at,size_setChan]⟩
set_option maxRecDepth 100000 in
theorem Lv{w:World}{pb cb cap s r:Nat}(a:w.heap[pb]? =some (.cells #[.chan (some cb)] 130 (0,0))) (hc:w.heap[cb]? =some (.chan cap #[] false s r false)):
  Calls Tryz.prog 33 #[.pointer (some ⟨pb,0,none⟩)] w fun e w'=>e=.returned (.tuple #[.pointer none,.int .i64 6])∧w'=w:=by
 refine calls_of_loneTo fun cs=>?_
 have e:Frame.enter Tryz.prog 33 #[.pointer (some ⟨pb,0,none⟩)] .normal=(base 33).at ⟨#[.pointer (some ⟨pb,0,none⟩),undef,undef,undef,undef,undef,undef,undef,undef,undef,undef,undef,undef,undef,undef,undef,undef,undef,undef],[]⟩ [.code (Tryz.f33.body.getD .skip)]:=by
  simp[Frame.enter,Frame.at,Tryz.func33,base,Tryz.f33]
 rw[e];have aR:=vo a (i:=0) rfl;refine LoneTo.goes (n:=22) ?_;simp only[Tryz.f33,mV];s_c stepG_seq
 s_reg
 s_op
 s_op
 s_c stepG_region_end
 s_c stepG_seq
 s_c stepG_seq
 s_reg
 s_op
 s_op
 s_c stepG_region_end
 s_cond false
 s_c stepG_skip
 s_c stepG_seq
 s_reg
 s_op
 s_op
 s_op
 s_op
 s_c stepG_region_end
 s_c stepG_seq
 s_reg
 s_stop
 refine LoneTo.step (step_lone_select_default (c:=cb) (z:=.int .i64 0) (stepG_comm (cases:= #[rcase cb (.int .i64 0)]) (blocking:=false) (shape:=.select) (w':=w) rfl rfl (by decide) (by simp[go_sem,execOp,rcase,Act.eval])) hc) ?_;rw[Frame.finish_at];walk_nrm
 refine LoneTo.goes (n:=11) ?_;s_op
 s_op
 s_c stepG_region_end
 s_c stepG_block
 s_cond false
 s_c stepG_seq
 s_reg
 s_op
 s_op
 s_c stepG_region_end
 s_c stepG_ret'
 s_stop
 refine LoneTo.done ⟨.returned (.tuple #[.pointer none,.int .i64 6]),_,rfl,⟨rfl,rfl⟩,rfl,rfl,rfl,rfl,_,Tryz.func33,by simp[results,Tryz.f33,Frame.at]⟩
theorem mkc(w:World)(n:Nat)(h:n≤4096):(Instr.makeChan 128 (.int .i64 n)).run Tryz.prog w=.ok (.chan (some w.heap.size)) (w.alloc (.chan n #[] false 0 0 false)):=by
 have a:Tryz.prog.underlying 128=some (.chan .both 3):=by kernel_rfl
 have c:(Tryz.prog.info? 3).map (·.bytes)=some 8:=by kernel_rfl
 obtain⟨i,hi,b⟩:=Option.map_eq_some_iff.1 c;exact run_makeChan (P:=Tryz.prog) (w:=w) a hi .i64 n (by omega) (by rw[b];omega)
noncomputable abbrev Dw:Code:=match Tryz.f32.body with|some (.seq _ (.seq _ (.seq _ (.seq (.seq _ (.block _ (.loop c))) _))))=>c|_=>.skip
noncomputable abbrev Iq:Code:=match Tryz.f32.body with|some (.seq _ (.seq _ (.seq _ (.seq _ c))))=>c|_=>.skip
set_option maxRecDepth 100000 in
set_option maxHeartbeats 4000000 in
theorem QW{n pb cb:Nat}{Q:Goroutine→World→Prop}{cs:List Frame}(N:n≤4096)(D:pb≠cb):∀(m i:Nat) (v p d q o a f g b k:Value) (ids:List Value) (s r:Nat) (w:World),i+m=n→ids.length=i→w.heap[pb]? =some (.cells #[.chan (some cb)] 130 (0,0))→w.heap[cb]? =some (.chan n ids.toArray false s r false)→
  (∀(v p d q o a f g b k:Value) (ids':List Value) (s' z:Nat) (w':World),ids'=ids++(cQ m).map (fun j=>Value.int .i64 ((i+j:Nat)+1:Int))→(w'=w∨w'=w.setChan cb n ids'.toArray false s' z false)→w'.heap[cb]? =some (.chan n ids'.toArray false s' z false)→LoneTo Tryz.prog Q (G ((base 32).at ⟨#[.int .i64 n,undef,.pointer none,.int .i64 0,.pointer (some ⟨pb,0,none⟩),v,.int .i64 n,.bool false,.bool false,.int .i64 n,.bool false,.bool false,.int .i64 n,.chan (some cb),.agg #[.chan (some cb)],.pointer (some ⟨pb,0,none⟩),.int .i64 n,.int .i64 n,p,d,q,o,a,f,g,b,k,undef],[]⟩ [.code Iq]) cs) w')→
  LoneTo Tryz.prog Q (G ((base 32).at ⟨#[.int .i64 n,undef,.pointer none,.int .i64 0,.pointer (some ⟨pb,0,none⟩),v,.int .i64 n,.bool false,.bool false,.int .i64 n,.bool false,.bool false,.int .i64 n,.chan (some cb),.agg #[.chan (some cb)],.pointer (some ⟨pb,0,none⟩),.int .i64 n,.int .i64 i,p,d,q,o,a,f,g,b,k,undef],[]⟩ [.code Dw,.inLoop Dw,.inBlock 0,.code Iq]) cs) w:=by
 intro m;induction m with
 |zero=>
  intro i v p d q o a f g b k ids s r w u B C hc F;have u:i=n:=by omega
  subst u;have E:¬((i:Int)<(i:Int)):=by omega
  refine LoneTo.goes (n:=9) ?_;simp only[Dw,Tryz.f32];s_c stepG_seq
  s_reg
  s_op
  s_c stepG_region_end
  s_c stepG_seq
  s_cond false
  s_exit
  s_stop
  exact F _ _ _ _ _ _ _ _ _ _ ids s r w (by simp) (.inl rfl) hc
 |succ m ih=>
  intro i v p d q o a f g b k ids s r w u B C hc F;have E:((i:Int)<(n:Int)):=by omega
  have aR:=vo C (i:=0) rfl;have J:IntKind.wrap .i64 ((i:Int)+1)=((i+1:Nat):Int):=by rw[oD (by omega)];omega
  refine LoneTo.goes (n:=21) ?_;simp only[Dw,Tryz.f32];s_c stepG_seq
  s_reg
  s_op
  s_c stepG_region_end
  s_c stepG_seq
  s_cond true
  s_c stepG_skip
  s_c stepG_seq
  s_c stepG_block
  s_c stepG_seq
  s_reg
  s_op
  s_op
  s_c stepG_region_end
  s_reg
  s_op
  s_op
  s_op
  s_op
  s_op
  s_op
  s_stop
  refine LoneTo.step (step_lone_send_room (c:=cb) (cap:=n) (buf:=ids.toArray) (s:=s) (r:=r) (tm:=false) (stepG_comm (cases:= #[scase cb (.int .i64 ((i:Int)+1)) (.tuple #[])]) (blocking:=true) (shape:=.send) (w':=w) rfl rfl (by decide) (by simp[execOp,scase,Act.eval])) hc (by simp[B];omega)) ?_;rw[Frame.finish_at];walk_nrm
  have hz:cb<w.heap.size:=(Array.getElem?_eq_some_iff.1 hc).1;refine LoneTo.goes (n:=7) ?_;s_c stepG_region_end
  s_c stepG_inBlock
  s_reg
  s_op
  s_op
  s_c stepG_region_end
  s_c stepG_inLoop
  s_stop
  have M:((i:Int)+1)=((i+1:Nat):Int):=by omega
  rw[M];refine ih (i+1) _ _ _ _ _ _ _ _ _ _ (ids++ [Value.int .i64 ((i+1:Nat):Int)]) (s+1) r (w.setChan cb n (ids++ [Value.int .i64 ((i+1:Nat):Int)]).toArray false (s+1) r false) (by omega) (by simp[B]) ?_ (heap_setChan _ _ _ _ _ _ _ _ hz) fun v p d q o a f g b k ids' s' z w' L y A=>F v p d q o a f g b k ids' s' z w' ?_ (.inr ?_) A
  ·simp only[World.setChan,Array.getElem?_setIfInBounds]
   rw[if_neg (Ne.symm D)];exact C
  ·rw[L,List.range_succ_eq_map]
   simp[Nat.add_comm,Nat.add_left_comm,Function.comp_def]
  ·rcases y with y|y
   ·subst y
    rw[heap_setChan _ _ _ _ _ _ _ _ hz]at A;simp only[Option.some.injEq,Obj.chan.injEq]at A;obtain⟨_,H,_,K,I,_⟩:=A;rw[H,K,I]
   ·rw[y];simp[World.setChan]
set_option maxRecDepth 100000 in
set_option maxHeartbeats 4000000 in
theorem QV{n:Nat}{w:World}(B:1≤n)(a:n≤4096):Calls Tryz.prog 32 #[.int .i64 n] w fun e w'=>e=.returned (.tuple #[.pointer (some ⟨w.heap.size+1,0,none⟩),.int .i64 0])∧∃(ids:List Value) (s r:Nat),ids=(cQ n).map (fun j=>Value.int .i64 ((0+j:Nat)+1:Int))∧w'.heap[w.heap.size]? =some (.chan n ids.toArray false s r false)∧(w'=(w.alloc (.chan n #[] false 0 0 false)).alloc (.cells #[.chan (some w.heap.size)] 130 (0,0))∨w'=((w.alloc (.chan n #[] false 0 0 false)).alloc (.cells #[.chan (some w.heap.size)] 130 (0,0))).setChan w.heap.size n ids.toArray false s r false):=by
 refine calls_of_loneTo fun cs=>?_
 have e:Frame.enter Tryz.prog 32 #[.int .i64 n] .normal=(base 32).at ⟨#[.int .i64 n,undef,undef,undef,undef,undef,undef,undef,undef,undef,undef,undef,undef,undef,undef,undef,undef,undef,undef,undef,undef,undef,undef,undef,undef,undef,undef,undef],[]⟩ [.code (Tryz.f32.body.getD .skip)]:=by
  simp[Frame.enter,Frame.at,Tryz.func32,base,Tryz.f32]
 rw[e];have m:=fun w=>mkc w n a
 have c1:¬((n:Int)<1):=by omega
 have c2:¬(4096<(n:Int)):=by omega
 refine LoneTo.goes (n:=33) ?_;simp only[Tryz.f32,mV];s_c stepG_seq
 s_reg
 s_op
 s_op
 s_c stepG_region_end
 s_c stepG_seq
 s_c stepG_seq
 s_reg
 s_op
 s_op
 s_op
 s_op
 s_op
 s_op
 s_c stepG_region_end
 s_cond false
 s_c stepG_skip
 s_c stepG_seq
 s_reg
 s_op
 s_op
 s_op
 s_op
 s_op
 s_c stepG_region_end
 s_c stepG_seq
 s_c stepG_seq
 s_reg
 s_op
 s_op
 s_c stepG_region_end
 s_c stepG_block
 s_c stepG_loop
 s_stop
 have y:((w.alloc (.chan n #[] false 0 0 false)).alloc (.cells #[.chan (some w.heap.size)] 130 (0,0))).heap[w.heap.size+1]? =some (.cells #[.chan (some w.heap.size)] 130 (0,0)):=by
  have:=heap_alloc_new (w.alloc (.chan n #[] false 0 0 false)) (.cells #[.chan (some w.heap.size)] 130 (0,0));simpa using this
 have d:((w.alloc (.chan n #[] false 0 0 false)).alloc (.cells #[.chan (some w.heap.size)] 130 (0,0))).heap[w.heap.size]? =some (.chan n #[] false 0 0 false):=by
  show((w.heap.push (.chan n #[] false 0 0 false)).push (.cells #[.chan (some w.heap.size)] 130 (0,0)))[w.heap.size]? =_
  simp[Array.getElem?_push]
 refine QW a (by omega) n 0 _ _ _ _ _ _ _ _ _ _ [] 0 0 _ (by omega) rfl y d fun A o q v z b u f i p ids s r w' k c g=>?_
 refine LoneTo.goes (n:=7) ?_;simp only[Iq,Tryz.f32];s_c stepG_seq
 s_reg
 s_op
 s_op
 s_op
 s_c stepG_region_end
 s_c stepG_ret'
 s_stop
 refine LoneTo.done ⟨.returned (.tuple #[.pointer (some ⟨w.heap.size+1,0,none⟩),.int .i64 0]),_,rfl,⟨rfl,ids,s,r,by simpa[cQ]using k,g,c⟩,rfl,rfl,rfl,rfl,_,Tryz.func32,by simp[results,Tryz.f32,Frame.at]⟩
theorem fJ{md:Region.Mode}{ops:Array Oper}{fuel t:Nat}{listed:Array Bool}{rs:List Nat}(c:Region.ready md ops listed=rs)(b:rs≠[]):∃i∈rs,∃t',Region.linearise.go md ops (fuel+1) t listed []=i::Region.linearise.go md ops fuel t' (listed.setIfInBounds i true) []:=by
 subst c;simp only[Region.linearise.go];change∃i∈Region.ready md ops listed,∃t',(match(Region.ready md ops listed)[t%(Region.ready md ops listed).length]? with
  |some i=>Region.linearise.go md ops fuel (t/(Region.ready md ops listed).length) (listed.setIfInBounds i true) [i]
  |none=> [].reverse)=i::Region.linearise.go md ops fuel t' (listed.setIfInBounds i true) []
 have d:0<(Region.ready md ops listed).length:=List.length_pos_iff.2 b;have a:t%(Region.ready md ops listed).length<(Region.ready md ops listed).length:=Nat.mod_lt _ d;rw[List.getElem?_eq_getElem a];refine⟨_,List.getElem_mem a,t/(Region.ready md ops listed).length,?_⟩;simp only[];rw[linearise_go_acc];rfl
noncomputable abbrev aN:Array Oper:=match Tryz.f37.body with|some (.seq _ (.seq _ (.seq _ (.seq (.region _ o _) _))))=>o|_=> #[]
section
variable {pb tb cb:Nat} {id:Int} {u2 u3 u4 u5 u6 u7 u8 u9 u10 u11 u12 u13 u14 u15 u16 u17 u18 u19 u20 u21 u22:Value} {Q:Goroutine→World→Prop} {cs:List Frame} {kk:List Item} {w:World}
set_option maxRecDepth 100000
theorem Ri(c:w.cell? ⟨pb,0,none⟩=some (.chan (some cb)))(d:w.cell? ⟨tb,1,none⟩=some (.int .i64 id))(a:∀t,LoneTo Tryz.prog Q (G ((base 37).at ⟨#[.pointer (some ⟨pb,0,none⟩),.pointer (some ⟨tb,0,none⟩),u2,u3,u4,u5,u6,u7,u8,u9,u10,u11,u12,u13,u14,u15,u16,u17,u18,u19,u20,u21,u22,.pointer (some ⟨pb,0,none⟩),.pointer (some ⟨pb,0,none⟩),.pointer (some ⟨pb,0,none⟩),.chan (some cb),.pointer (some ⟨tb,0,none⟩),.pointer (some ⟨tb,0,none⟩),.pointer (some ⟨tb,1,none⟩),.int .i64 id],[]⟩ (.inRegion aN (Region.linearise.go .any aN 1 t #[true,true,true,true,true,true,true,true,false] [])::kk)) cs) w)(t:Nat):LoneTo Tryz.prog Q (G ((base 37).at ⟨#[.pointer (some ⟨pb,0,none⟩),.pointer (some ⟨tb,0,none⟩),u2,u3,u4,u5,u6,u7,u8,u9,u10,u11,u12,u13,u14,u15,u16,u17,u18,u19,u20,u21,u22,.pointer (some ⟨pb,0,none⟩),.pointer (some ⟨pb,0,none⟩),.pointer (some ⟨pb,0,none⟩),.chan (some cb),.pointer (some ⟨tb,0,none⟩),.pointer (some ⟨tb,0,none⟩),.pointer (some ⟨tb,1,none⟩),undef],[]⟩ (.inRegion aN (Region.linearise.go .any aN 2 t #[true,true,true,true,true,true,true,false,false] [])::kk)) cs) w:=by
 obtain⟨i,hi,b,e⟩:=fJ (md:=.any) (ops:=aN) (fuel:=1) (t:=t) (listed:= #[true,true,true,true,true,true,true,false,false]) (rs:= [7]) (by kernel_rfl) (by simp);rw[e];rw[au.1 hi];refine LoneTo.goes (n:=1) ?_;simp only[aN,Tryz.f37];s_op
 s_stop
 exact a b
theorem Rl(c:w.cell? ⟨pb,0,none⟩=some (.chan (some cb)))(d:w.cell? ⟨tb,1,none⟩=some (.int .i64 id))(a:∀t,LoneTo Tryz.prog Q (G ((base 37).at ⟨#[.pointer (some ⟨pb,0,none⟩),.pointer (some ⟨tb,0,none⟩),u2,u3,u4,u5,u6,u7,u8,u9,u10,u11,u12,u13,u14,u15,u16,u17,u18,u19,u20,u21,u22,.pointer (some ⟨pb,0,none⟩),.pointer (some ⟨pb,0,none⟩),.pointer (some ⟨pb,0,none⟩),.chan (some cb),.pointer (some ⟨tb,0,none⟩),.pointer (some ⟨tb,0,none⟩),.pointer (some ⟨tb,1,none⟩),.int .i64 id],[]⟩ (.inRegion aN (Region.linearise.go .any aN 1 t #[true,true,true,true,true,true,true,true,false] [])::kk)) cs) w)(t:Nat):LoneTo Tryz.prog Q (G ((base 37).at ⟨#[.pointer (some ⟨pb,0,none⟩),.pointer (some ⟨tb,0,none⟩),u2,u3,u4,u5,u6,u7,u8,u9,u10,u11,u12,u13,u14,u15,u16,u17,u18,u19,u20,u21,u22,.pointer (some ⟨pb,0,none⟩),.pointer (some ⟨pb,0,none⟩),.pointer (some ⟨pb,0,none⟩),undef,.pointer (some ⟨tb,0,none⟩),.pointer (some ⟨tb,0,none⟩),.pointer (some ⟨tb,1,none⟩),.int .i64 id],[]⟩ (.inRegion aN (Region.linearise.go .any aN 2 t #[true,true,true,false,true,true,true,true,false] [])::kk)) cs) w:=by
 obtain⟨i,hi,b,e⟩:=fJ (md:=.any) (ops:=aN) (fuel:=1) (t:=t) (listed:= #[true,true,true,false,true,true,true,true,false]) (rs:= [3]) (by kernel_rfl) (by simp);rw[e];rw[au.1 hi];refine LoneTo.goes (n:=1) ?_;simp only[aN,Tryz.f37];s_op
 s_stop
 exact a b
theorem Rj(a:w.cell? ⟨pb,0,none⟩=some (.chan (some cb)))(c:w.cell? ⟨tb,1,none⟩=some (.int .i64 id))(b:∀t,LoneTo Tryz.prog Q (G ((base 37).at ⟨#[.pointer (some ⟨pb,0,none⟩),.pointer (some ⟨tb,0,none⟩),u2,u3,u4,u5,u6,u7,u8,u9,u10,u11,u12,u13,u14,u15,u16,u17,u18,u19,u20,u21,u22,.pointer (some ⟨pb,0,none⟩),.pointer (some ⟨pb,0,none⟩),.pointer (some ⟨pb,0,none⟩),.chan (some cb),.pointer (some ⟨tb,0,none⟩),.pointer (some ⟨tb,0,none⟩),.pointer (some ⟨tb,1,none⟩),.int .i64 id],[]⟩ (.inRegion aN (Region.linearise.go .any aN 1 t #[true,true,true,true,true,true,true,true,false] [])::kk)) cs) w)(t:Nat):LoneTo Tryz.prog Q (G ((base 37).at ⟨#[.pointer (some ⟨pb,0,none⟩),.pointer (some ⟨tb,0,none⟩),u2,u3,u4,u5,u6,u7,u8,u9,u10,u11,u12,u13,u14,u15,u16,u17,u18,u19,u20,u21,u22,.pointer (some ⟨pb,0,none⟩),.pointer (some ⟨pb,0,none⟩),.pointer (some ⟨pb,0,none⟩),.chan (some cb),.pointer (some ⟨tb,0,none⟩),.pointer (some ⟨tb,0,none⟩),undef,undef],[]⟩ (.inRegion aN (Region.linearise.go .any aN 3 t #[true,true,true,true,true,true,false,false,false] [])::kk)) cs) w:=by
 obtain⟨i,hi,d,e⟩:=fJ (md:=.any) (ops:=aN) (fuel:=2) (t:=t) (listed:= #[true,true,true,true,true,true,false,false,false]) (rs:= [6]) (by kernel_rfl) (by simp);rw[e];rw[au.1 hi];refine LoneTo.goes (n:=1) ?_;simp only[aN,Tryz.f37];s_op
 s_stop
 exact Ri a c b d
theorem Rm(a:w.cell? ⟨pb,0,none⟩=some (.chan (some cb)))(c:w.cell? ⟨tb,1,none⟩=some (.int .i64 id))(b:∀t,LoneTo Tryz.prog Q (G ((base 37).at ⟨#[.pointer (some ⟨pb,0,none⟩),.pointer (some ⟨tb,0,none⟩),u2,u3,u4,u5,u6,u7,u8,u9,u10,u11,u12,u13,u14,u15,u16,u17,u18,u19,u20,u21,u22,.pointer (some ⟨pb,0,none⟩),.pointer (some ⟨pb,0,none⟩),.pointer (some ⟨pb,0,none⟩),.chan (some cb),.pointer (some ⟨tb,0,none⟩),.pointer (some ⟨tb,0,none⟩),.pointer (some ⟨tb,1,none⟩),.int .i64 id],[]⟩ (.inRegion aN (Region.linearise.go .any aN 1 t #[true,true,true,true,true,true,true,true,false] [])::kk)) cs) w)(t:Nat):LoneTo Tryz.prog Q (G ((base 37).at ⟨#[.pointer (some ⟨pb,0,none⟩),.pointer (some ⟨tb,0,none⟩),u2,u3,u4,u5,u6,u7,u8,u9,u10,u11,u12,u13,u14,u15,u16,u17,u18,u19,u20,u21,u22,.pointer (some ⟨pb,0,none⟩),.pointer (some ⟨pb,0,none⟩),.pointer (some ⟨pb,0,none⟩),undef,.pointer (some ⟨tb,0,none⟩),.pointer (some ⟨tb,0,none⟩),.pointer (some ⟨tb,1,none⟩),undef],[]⟩ (.inRegion aN (Region.linearise.go .any aN 3 t #[true,true,true,false,true,true,true,false,false] [])::kk)) cs) w:=by
 obtain⟨i,hi,d,e⟩:=fJ (md:=.any) (ops:=aN) (fuel:=2) (t:=t) (listed:= #[true,true,true,false,true,true,true,false,false]) (rs:= [3,7]) (by kernel_rfl) (by simp);rw[e];rcases aA.1 hi with rfl|hi
 ·skip
  refine LoneTo.goes (n:=1) ?_;simp only[aN,Tryz.f37];s_op
  s_stop
  exact Ri a c b d
 ·rw[au.1 hi]
  refine LoneTo.goes (n:=1) ?_;simp only[aN,Tryz.f37];s_op
  s_stop
  exact Rl a c b d
theorem Rp(a:w.cell? ⟨pb,0,none⟩=some (.chan (some cb)))(c:w.cell? ⟨tb,1,none⟩=some (.int .i64 id))(b:∀t,LoneTo Tryz.prog Q (G ((base 37).at ⟨#[.pointer (some ⟨pb,0,none⟩),.pointer (some ⟨tb,0,none⟩),u2,u3,u4,u5,u6,u7,u8,u9,u10,u11,u12,u13,u14,u15,u16,u17,u18,u19,u20,u21,u22,.pointer (some ⟨pb,0,none⟩),.pointer (some ⟨pb,0,none⟩),.pointer (some ⟨pb,0,none⟩),.chan (some cb),.pointer (some ⟨tb,0,none⟩),.pointer (some ⟨tb,0,none⟩),.pointer (some ⟨tb,1,none⟩),.int .i64 id],[]⟩ (.inRegion aN (Region.linearise.go .any aN 1 t #[true,true,true,true,true,true,true,true,false] [])::kk)) cs) w)(t:Nat):LoneTo Tryz.prog Q (G ((base 37).at ⟨#[.pointer (some ⟨pb,0,none⟩),.pointer (some ⟨tb,0,none⟩),u2,u3,u4,u5,u6,u7,u8,u9,u10,u11,u12,u13,u14,u15,u16,u17,u18,u19,u20,u21,u22,.pointer (some ⟨pb,0,none⟩),.pointer (some ⟨pb,0,none⟩),undef,undef,.pointer (some ⟨tb,0,none⟩),.pointer (some ⟨tb,0,none⟩),.pointer (some ⟨tb,1,none⟩),.int .i64 id],[]⟩ (.inRegion aN (Region.linearise.go .any aN 3 t #[true,true,false,false,true,true,true,true,false] [])::kk)) cs) w:=by
 obtain⟨i,hi,d,e⟩:=fJ (md:=.any) (ops:=aN) (fuel:=2) (t:=t) (listed:= #[true,true,false,false,true,true,true,true,false]) (rs:= [2]) (by kernel_rfl) (by simp);rw[e];rw[au.1 hi];refine LoneTo.goes (n:=1) ?_;simp only[aN,Tryz.f37];s_op
 s_stop
 exact Rl a c b d
theorem Rk(a:w.cell? ⟨pb,0,none⟩=some (.chan (some cb)))(c:w.cell? ⟨tb,1,none⟩=some (.int .i64 id))(b:∀t,LoneTo Tryz.prog Q (G ((base 37).at ⟨#[.pointer (some ⟨pb,0,none⟩),.pointer (some ⟨tb,0,none⟩),u2,u3,u4,u5,u6,u7,u8,u9,u10,u11,u12,u13,u14,u15,u16,u17,u18,u19,u20,u21,u22,.pointer (some ⟨pb,0,none⟩),.pointer (some ⟨pb,0,none⟩),.pointer (some ⟨pb,0,none⟩),.chan (some cb),.pointer (some ⟨tb,0,none⟩),.pointer (some ⟨tb,0,none⟩),.pointer (some ⟨tb,1,none⟩),.int .i64 id],[]⟩ (.inRegion aN (Region.linearise.go .any aN 1 t #[true,true,true,true,true,true,true,true,false] [])::kk)) cs) w)(t:Nat):LoneTo Tryz.prog Q (G ((base 37).at ⟨#[.pointer (some ⟨pb,0,none⟩),.pointer (some ⟨tb,0,none⟩),u2,u3,u4,u5,u6,u7,u8,u9,u10,u11,u12,u13,u14,u15,u16,u17,u18,u19,u20,u21,u22,.pointer (some ⟨pb,0,none⟩),.pointer (some ⟨pb,0,none⟩),.pointer (some ⟨pb,0,none⟩),.chan (some cb),.pointer (some ⟨tb,0,none⟩),undef,undef,undef],[]⟩ (.inRegion aN (Region.linearise.go .any aN 4 t #[true,true,true,true,true,false,false,false,false] [])::kk)) cs) w:=by
 obtain⟨i,hi,d,e⟩:=fJ (md:=.any) (ops:=aN) (fuel:=3) (t:=t) (listed:= #[true,true,true,true,true,false,false,false,false]) (rs:= [5]) (by kernel_rfl) (by simp);rw[e];rw[au.1 hi];refine LoneTo.goes (n:=1) ?_;simp only[aN,Tryz.f37];s_op
 s_stop
 exact Rj a c b d
theorem Rn(a:w.cell? ⟨pb,0,none⟩=some (.chan (some cb)))(c:w.cell? ⟨tb,1,none⟩=some (.int .i64 id))(b:∀t,LoneTo Tryz.prog Q (G ((base 37).at ⟨#[.pointer (some ⟨pb,0,none⟩),.pointer (some ⟨tb,0,none⟩),u2,u3,u4,u5,u6,u7,u8,u9,u10,u11,u12,u13,u14,u15,u16,u17,u18,u19,u20,u21,u22,.pointer (some ⟨pb,0,none⟩),.pointer (some ⟨pb,0,none⟩),.pointer (some ⟨pb,0,none⟩),.chan (some cb),.pointer (some ⟨tb,0,none⟩),.pointer (some ⟨tb,0,none⟩),.pointer (some ⟨tb,1,none⟩),.int .i64 id],[]⟩ (.inRegion aN (Region.linearise.go .any aN 1 t #[true,true,true,true,true,true,true,true,false] [])::kk)) cs) w)(t:Nat):LoneTo Tryz.prog Q (G ((base 37).at ⟨#[.pointer (some ⟨pb,0,none⟩),.pointer (some ⟨tb,0,none⟩),u2,u3,u4,u5,u6,u7,u8,u9,u10,u11,u12,u13,u14,u15,u16,u17,u18,u19,u20,u21,u22,.pointer (some ⟨pb,0,none⟩),.pointer (some ⟨pb,0,none⟩),.pointer (some ⟨pb,0,none⟩),undef,.pointer (some ⟨tb,0,none⟩),.pointer (some ⟨tb,0,none⟩),undef,undef],[]⟩ (.inRegion aN (Region.linearise.go .any aN 4 t #[true,true,true,false,true,true,false,false,false] [])::kk)) cs) w:=by
 obtain⟨i,hi,d,e⟩:=fJ (md:=.any) (ops:=aN) (fuel:=3) (t:=t) (listed:= #[true,true,true,false,true,true,false,false,false]) (rs:= [3,6]) (by kernel_rfl) (by simp);rw[e];rcases aA.1 hi with rfl|hi
 ·skip
  refine LoneTo.goes (n:=1) ?_;simp only[aN,Tryz.f37];s_op
  s_stop
  exact Rj a c b d
 ·rw[au.1 hi]
  refine LoneTo.goes (n:=1) ?_;simp only[aN,Tryz.f37];s_op
  s_stop
  exact Rm a c b d
theorem Rr(a:w.cell? ⟨pb,0,none⟩=some (.chan (some cb)))(c:w.cell? ⟨tb,1,none⟩=some (.int .i64 id))(b:∀t,LoneTo Tryz.prog Q (G ((base 37).at ⟨#[.pointer (some ⟨pb,0,none⟩),.pointer (some ⟨tb,0,none⟩),u2,u3,u4,u5,u6,u7,u8,u9,u10,u11,u12,u13,u14,u15,u16,u17,u18,u19,u20,u21,u22,.pointer (some ⟨pb,0,none⟩),.pointer (some ⟨pb,0,none⟩),.pointer (some ⟨pb,0,none⟩),.chan (some cb),.pointer (some ⟨tb,0,none⟩),.pointer (some ⟨tb,0,none⟩),.pointer (some ⟨tb,1,none⟩),.int .i64 id],[]⟩ (.inRegion aN (Region.linearise.go .any aN 1 t #[true,true,true,true,true,true,true,true,false] [])::kk)) cs) w)(t:Nat):LoneTo Tryz.prog Q (G ((base 37).at ⟨#[.pointer (some ⟨pb,0,none⟩),.pointer (some ⟨tb,0,none⟩),u2,u3,u4,u5,u6,u7,u8,u9,u10,u11,u12,u13,u14,u15,u16,u17,u18,u19,u20,u21,u22,.pointer (some ⟨pb,0,none⟩),.pointer (some ⟨pb,0,none⟩),undef,undef,.pointer (some ⟨tb,0,none⟩),.pointer (some ⟨tb,0,none⟩),.pointer (some ⟨tb,1,none⟩),undef],[]⟩ (.inRegion aN (Region.linearise.go .any aN 4 t #[true,true,false,false,true,true,true,false,false] [])::kk)) cs) w:=by
 obtain⟨i,hi,d,e⟩:=fJ (md:=.any) (ops:=aN) (fuel:=3) (t:=t) (listed:= #[true,true,false,false,true,true,true,false,false]) (rs:= [2,7]) (by kernel_rfl) (by simp);rw[e];rcases aA.1 hi with rfl|hi
 ·skip
  refine LoneTo.goes (n:=1) ?_;simp only[aN,Tryz.f37];s_op
  s_stop
  exact Rm a c b d
 ·rw[au.1 hi]
  refine LoneTo.goes (n:=1) ?_;simp only[aN,Tryz.f37];s_op
  s_stop
  exact Rp a c b d
theorem Rv(a:w.cell? ⟨pb,0,none⟩=some (.chan (some cb)))(c:w.cell? ⟨tb,1,none⟩=some (.int .i64 id))(b:∀t,LoneTo Tryz.prog Q (G ((base 37).at ⟨#[.pointer (some ⟨pb,0,none⟩),.pointer (some ⟨tb,0,none⟩),u2,u3,u4,u5,u6,u7,u8,u9,u10,u11,u12,u13,u14,u15,u16,u17,u18,u19,u20,u21,u22,.pointer (some ⟨pb,0,none⟩),.pointer (some ⟨pb,0,none⟩),.pointer (some ⟨pb,0,none⟩),.chan (some cb),.pointer (some ⟨tb,0,none⟩),.pointer (some ⟨tb,0,none⟩),.pointer (some ⟨tb,1,none⟩),.int .i64 id],[]⟩ (.inRegion aN (Region.linearise.go .any aN 1 t #[true,true,true,true,true,true,true,true,false] [])::kk)) cs) w)(t:Nat):LoneTo Tryz.prog Q (G ((base 37).at ⟨#[.pointer (some ⟨pb,0,none⟩),.pointer (some ⟨tb,0,none⟩),u2,u3,u4,u5,u6,u7,u8,u9,u10,u11,u12,u13,u14,u15,u16,u17,u18,u19,u20,u21,u22,.pointer (some ⟨pb,0,none⟩),undef,undef,undef,.pointer (some ⟨tb,0,none⟩),.pointer (some ⟨tb,0,none⟩),.pointer (some ⟨tb,1,none⟩),.int .i64 id],[]⟩ (.inRegion aN (Region.linearise.go .any aN 4 t #[true,false,false,false,true,true,true,true,false] [])::kk)) cs) w:=by
 obtain⟨i,hi,d,e⟩:=fJ (md:=.any) (ops:=aN) (fuel:=3) (t:=t) (listed:= #[true,false,false,false,true,true,true,true,false]) (rs:= [1]) (by kernel_rfl) (by simp);rw[e];rw[au.1 hi];refine LoneTo.goes (n:=1) ?_;simp only[aN,Tryz.f37];s_op
 s_stop
 exact Rp a c b d
theorem U3(a:w.cell? ⟨pb,0,none⟩=some (.chan (some cb)))(c:w.cell? ⟨tb,1,none⟩=some (.int .i64 id))(b:∀t,LoneTo Tryz.prog Q (G ((base 37).at ⟨#[.pointer (some ⟨pb,0,none⟩),.pointer (some ⟨tb,0,none⟩),u2,u3,u4,u5,u6,u7,u8,u9,u10,u11,u12,u13,u14,u15,u16,u17,u18,u19,u20,u21,u22,.pointer (some ⟨pb,0,none⟩),.pointer (some ⟨pb,0,none⟩),.pointer (some ⟨pb,0,none⟩),.chan (some cb),.pointer (some ⟨tb,0,none⟩),.pointer (some ⟨tb,0,none⟩),.pointer (some ⟨tb,1,none⟩),.int .i64 id],[]⟩ (.inRegion aN (Region.linearise.go .any aN 1 t #[true,true,true,true,true,true,true,true,false] [])::kk)) cs) w)(t:Nat):LoneTo Tryz.prog Q (G ((base 37).at ⟨#[.pointer (some ⟨pb,0,none⟩),.pointer (some ⟨tb,0,none⟩),u2,u3,u4,u5,u6,u7,u8,u9,u10,u11,u12,u13,u14,u15,u16,u17,u18,u19,u20,u21,u22,.pointer (some ⟨pb,0,none⟩),.pointer (some ⟨pb,0,none⟩),.pointer (some ⟨pb,0,none⟩),.chan (some cb),undef,undef,undef,undef],[]⟩ (.inRegion aN (Region.linearise.go .any aN 5 t #[true,true,true,true,false,false,false,false,false] [])::kk)) cs) w:=by
 obtain⟨i,hi,d,e⟩:=fJ (md:=.any) (ops:=aN) (fuel:=4) (t:=t) (listed:= #[true,true,true,true,false,false,false,false,false]) (rs:= [4]) (by kernel_rfl) (by simp);rw[e];rw[au.1 hi];refine LoneTo.goes (n:=1) ?_;simp only[aN,Tryz.f37];s_op
 s_stop
 exact Rk a c b d
theorem Ro(a:w.cell? ⟨pb,0,none⟩=some (.chan (some cb)))(c:w.cell? ⟨tb,1,none⟩=some (.int .i64 id))(b:∀t,LoneTo Tryz.prog Q (G ((base 37).at ⟨#[.pointer (some ⟨pb,0,none⟩),.pointer (some ⟨tb,0,none⟩),u2,u3,u4,u5,u6,u7,u8,u9,u10,u11,u12,u13,u14,u15,u16,u17,u18,u19,u20,u21,u22,.pointer (some ⟨pb,0,none⟩),.pointer (some ⟨pb,0,none⟩),.pointer (some ⟨pb,0,none⟩),.chan (some cb),.pointer (some ⟨tb,0,none⟩),.pointer (some ⟨tb,0,none⟩),.pointer (some ⟨tb,1,none⟩),.int .i64 id],[]⟩ (.inRegion aN (Region.linearise.go .any aN 1 t #[true,true,true,true,true,true,true,true,false] [])::kk)) cs) w)(t:Nat):LoneTo Tryz.prog Q (G ((base 37).at ⟨#[.pointer (some ⟨pb,0,none⟩),.pointer (some ⟨tb,0,none⟩),u2,u3,u4,u5,u6,u7,u8,u9,u10,u11,u12,u13,u14,u15,u16,u17,u18,u19,u20,u21,u22,.pointer (some ⟨pb,0,none⟩),.pointer (some ⟨pb,0,none⟩),.pointer (some ⟨pb,0,none⟩),undef,.pointer (some ⟨tb,0,none⟩),undef,undef,undef],[]⟩ (.inRegion aN (Region.linearise.go .any aN 5 t #[true,true,true,false,true,false,false,false,false] [])::kk)) cs) w:=by
 obtain⟨i,hi,d,e⟩:=fJ (md:=.any) (ops:=aN) (fuel:=4) (t:=t) (listed:= #[true,true,true,false,true,false,false,false,false]) (rs:= [3,5]) (by kernel_rfl) (by simp);rw[e];rcases aA.1 hi with rfl|hi
 ·skip
  refine LoneTo.goes (n:=1) ?_;simp only[aN,Tryz.f37];s_op
  s_stop
  exact Rk a c b d
 ·rw[au.1 hi]
  refine LoneTo.goes (n:=1) ?_;simp only[aN,Tryz.f37];s_op
  s_stop
  exact Rn a c b d
theorem Rs(a:w.cell? ⟨pb,0,none⟩=some (.chan (some cb)))(c:w.cell? ⟨tb,1,none⟩=some (.int .i64 id))(b:∀t,LoneTo Tryz.prog Q (G ((base 37).at ⟨#[.pointer (some ⟨pb,0,none⟩),.pointer (some ⟨tb,0,none⟩),u2,u3,u4,u5,u6,u7,u8,u9,u10,u11,u12,u13,u14,u15,u16,u17,u18,u19,u20,u21,u22,.pointer (some ⟨pb,0,none⟩),.pointer (some ⟨pb,0,none⟩),.pointer (some ⟨pb,0,none⟩),.chan (some cb),.pointer (some ⟨tb,0,none⟩),.pointer (some ⟨tb,0,none⟩),.pointer (some ⟨tb,1,none⟩),.int .i64 id],[]⟩ (.inRegion aN (Region.linearise.go .any aN 1 t #[true,true,true,true,true,true,true,true,false] [])::kk)) cs) w)(t:Nat):LoneTo Tryz.prog Q (G ((base 37).at ⟨#[.pointer (some ⟨pb,0,none⟩),.pointer (some ⟨tb,0,none⟩),u2,u3,u4,u5,u6,u7,u8,u9,u10,u11,u12,u13,u14,u15,u16,u17,u18,u19,u20,u21,u22,.pointer (some ⟨pb,0,none⟩),.pointer (some ⟨pb,0,none⟩),undef,undef,.pointer (some ⟨tb,0,none⟩),.pointer (some ⟨tb,0,none⟩),undef,undef],[]⟩ (.inRegion aN (Region.linearise.go .any aN 5 t #[true,true,false,false,true,true,false,false,false] [])::kk)) cs) w:=by
 obtain⟨i,hi,d,e⟩:=fJ (md:=.any) (ops:=aN) (fuel:=4) (t:=t) (listed:= #[true,true,false,false,true,true,false,false,false]) (rs:= [2,6]) (by kernel_rfl) (by simp);rw[e];rcases aA.1 hi with rfl|hi
 ·skip
  refine LoneTo.goes (n:=1) ?_;simp only[aN,Tryz.f37];s_op
  s_stop
  exact Rn a c b d
 ·rw[au.1 hi]
  refine LoneTo.goes (n:=1) ?_;simp only[aN,Tryz.f37];s_op
  s_stop
  exact Rr a c b d
theorem Rw(a:w.cell? ⟨pb,0,none⟩=some (.chan (some cb)))(c:w.cell? ⟨tb,1,none⟩=some (.int .i64 id))(b:∀t,LoneTo Tryz.prog Q (G ((base 37).at ⟨#[.pointer (some ⟨pb,0,none⟩),.pointer (some ⟨tb,0,none⟩),u2,u3,u4,u5,u6,u7,u8,u9,u10,u11,u12,u13,u14,u15,u16,u17,u18,u19,u20,u21,u22,.pointer (some ⟨pb,0,none⟩),.pointer (some ⟨pb,0,none⟩),.pointer (some ⟨pb,0,none⟩),.chan (some cb),.pointer (some ⟨tb,0,none⟩),.pointer (some ⟨tb,0,none⟩),.pointer (some ⟨tb,1,none⟩),.int .i64 id],[]⟩ (.inRegion aN (Region.linearise.go .any aN 1 t #[true,true,true,true,true,true,true,true,false] [])::kk)) cs) w)(t:Nat):LoneTo Tryz.prog Q (G ((base 37).at ⟨#[.pointer (some ⟨pb,0,none⟩),.pointer (some ⟨tb,0,none⟩),u2,u3,u4,u5,u6,u7,u8,u9,u10,u11,u12,u13,u14,u15,u16,u17,u18,u19,u20,u21,u22,.pointer (some ⟨pb,0,none⟩),undef,undef,undef,.pointer (some ⟨tb,0,none⟩),.pointer (some ⟨tb,0,none⟩),.pointer (some ⟨tb,1,none⟩),undef],[]⟩ (.inRegion aN (Region.linearise.go .any aN 5 t #[true,false,false,false,true,true,true,false,false] [])::kk)) cs) w:=by
 obtain⟨i,hi,d,e⟩:=fJ (md:=.any) (ops:=aN) (fuel:=4) (t:=t) (listed:= #[true,false,false,false,true,true,true,false,false]) (rs:= [1,7]) (by kernel_rfl) (by simp);rw[e];rcases aA.1 hi with rfl|hi
 ·skip
  refine LoneTo.goes (n:=1) ?_;simp only[aN,Tryz.f37];s_op
  s_stop
  exact Rr a c b d
 ·rw[au.1 hi]
  refine LoneTo.goes (n:=1) ?_;simp only[aN,Tryz.f37];s_op
  s_stop
  exact Rv a c b d
theorem U7(a:w.cell? ⟨pb,0,none⟩=some (.chan (some cb)))(c:w.cell? ⟨tb,1,none⟩=some (.int .i64 id))(b:∀t,LoneTo Tryz.prog Q (G ((base 37).at ⟨#[.pointer (some ⟨pb,0,none⟩),.pointer (some ⟨tb,0,none⟩),u2,u3,u4,u5,u6,u7,u8,u9,u10,u11,u12,u13,u14,u15,u16,u17,u18,u19,u20,u21,u22,.pointer (some ⟨pb,0,none⟩),.pointer (some ⟨pb,0,none⟩),.pointer (some ⟨pb,0,none⟩),.chan (some cb),.pointer (some ⟨tb,0,none⟩),.pointer (some ⟨tb,0,none⟩),.pointer (some ⟨tb,1,none⟩),.int .i64 id],[]⟩ (.inRegion aN (Region.linearise.go .any aN 1 t #[true,true,true,true,true,true,true,true,false] [])::kk)) cs) w)(t:Nat):LoneTo Tryz.prog Q (G ((base 37).at ⟨#[.pointer (some ⟨pb,0,none⟩),.pointer (some ⟨tb,0,none⟩),u2,u3,u4,u5,u6,u7,u8,u9,u10,u11,u12,u13,u14,u15,u16,u17,u18,u19,u20,u21,u22,undef,undef,undef,undef,.pointer (some ⟨tb,0,none⟩),.pointer (some ⟨tb,0,none⟩),.pointer (some ⟨tb,1,none⟩),.int .i64 id],[]⟩ (.inRegion aN (Region.linearise.go .any aN 5 t #[false,false,false,false,true,true,true,true,false] [])::kk)) cs) w:=by
 obtain⟨i,hi,d,e⟩:=fJ (md:=.any) (ops:=aN) (fuel:=4) (t:=t) (listed:= #[false,false,false,false,true,true,true,true,false]) (rs:= [0]) (by kernel_rfl) (by simp);rw[e];rw[au.1 hi];refine LoneTo.goes (n:=1) ?_;simp only[aN,Tryz.f37];s_op
 s_stop
 exact Rv a c b d
theorem U4(a:w.cell? ⟨pb,0,none⟩=some (.chan (some cb)))(c:w.cell? ⟨tb,1,none⟩=some (.int .i64 id))(b:∀t,LoneTo Tryz.prog Q (G ((base 37).at ⟨#[.pointer (some ⟨pb,0,none⟩),.pointer (some ⟨tb,0,none⟩),u2,u3,u4,u5,u6,u7,u8,u9,u10,u11,u12,u13,u14,u15,u16,u17,u18,u19,u20,u21,u22,.pointer (some ⟨pb,0,none⟩),.pointer (some ⟨pb,0,none⟩),.pointer (some ⟨pb,0,none⟩),.chan (some cb),.pointer (some ⟨tb,0,none⟩),.pointer (some ⟨tb,0,none⟩),.pointer (some ⟨tb,1,none⟩),.int .i64 id],[]⟩ (.inRegion aN (Region.linearise.go .any aN 1 t #[true,true,true,true,true,true,true,true,false] [])::kk)) cs) w)(t:Nat):LoneTo Tryz.prog Q (G ((base 37).at ⟨#[.pointer (some ⟨pb,0,none⟩),.pointer (some ⟨tb,0,none⟩),u2,u3,u4,u5,u6,u7,u8,u9,u10,u11,u12,u13,u14,u15,u16,u17,u18,u19,u20,u21,u22,.pointer (some ⟨pb,0,none⟩),.pointer (some ⟨pb,0,none⟩),.pointer (some ⟨pb,0,none⟩),undef,undef,undef,undef,undef],[]⟩ (.inRegion aN (Region.linearise.go .any aN 6 t #[true,true,true,false,false,false,false,false,false] [])::kk)) cs) w:=by
 obtain⟨i,hi,d,e⟩:=fJ (md:=.any) (ops:=aN) (fuel:=5) (t:=t) (listed:= #[true,true,true,false,false,false,false,false,false]) (rs:= [3,4]) (by kernel_rfl) (by simp);rw[e];rcases aA.1 hi with rfl|hi
 ·skip
  refine LoneTo.goes (n:=1) ?_;simp only[aN,Tryz.f37];s_op
  s_stop
  exact U3 a c b d
 ·rw[au.1 hi]
  refine LoneTo.goes (n:=1) ?_;simp only[aN,Tryz.f37];s_op
  s_stop
  exact Ro a c b d
theorem Ru(a:w.cell? ⟨pb,0,none⟩=some (.chan (some cb)))(c:w.cell? ⟨tb,1,none⟩=some (.int .i64 id))(b:∀t,LoneTo Tryz.prog Q (G ((base 37).at ⟨#[.pointer (some ⟨pb,0,none⟩),.pointer (some ⟨tb,0,none⟩),u2,u3,u4,u5,u6,u7,u8,u9,u10,u11,u12,u13,u14,u15,u16,u17,u18,u19,u20,u21,u22,.pointer (some ⟨pb,0,none⟩),.pointer (some ⟨pb,0,none⟩),.pointer (some ⟨pb,0,none⟩),.chan (some cb),.pointer (some ⟨tb,0,none⟩),.pointer (some ⟨tb,0,none⟩),.pointer (some ⟨tb,1,none⟩),.int .i64 id],[]⟩ (.inRegion aN (Region.linearise.go .any aN 1 t #[true,true,true,true,true,true,true,true,false] [])::kk)) cs) w)(t:Nat):LoneTo Tryz.prog Q (G ((base 37).at ⟨#[.pointer (some ⟨pb,0,none⟩),.pointer (some ⟨tb,0,none⟩),u2,u3,u4,u5,u6,u7,u8,u9,u10,u11,u12,u13,u14,u15,u16,u17,u18,u19,u20,u21,u22,.pointer (some ⟨pb,0,none⟩),.pointer (some ⟨pb,0,none⟩),undef,undef,.pointer (some ⟨tb,0,none⟩),undef,undef,undef],[]⟩ (.inRegion aN (Region.linearise.go .any aN 6 t #[true,true,false,false,true,false,false,false,false] [])::kk)) cs) w:=by
 obtain⟨i,hi,d,e⟩:=fJ (md:=.any) (ops:=aN) (fuel:=5) (t:=t) (listed:= #[true,true,false,false,true,false,false,false,false]) (rs:= [2,5]) (by kernel_rfl) (by simp);rw[e];rcases aA.1 hi with rfl|hi
 ·skip
  refine LoneTo.goes (n:=1) ?_;simp only[aN,Tryz.f37];s_op
  s_stop
  exact Ro a c b d
 ·rw[au.1 hi]
  refine LoneTo.goes (n:=1) ?_;simp only[aN,Tryz.f37];s_op
  s_stop
  exact Rs a c b d
theorem Rx(a:w.cell? ⟨pb,0,none⟩=some (.chan (some cb)))(c:w.cell? ⟨tb,1,none⟩=some (.int .i64 id))(b:∀t,LoneTo Tryz.prog Q (G ((base 37).at ⟨#[.pointer (some ⟨pb,0,none⟩),.pointer (some ⟨tb,0,none⟩),u2,u3,u4,u5,u6,u7,u8,u9,u10,u11,u12,u13,u14,u15,u16,u17,u18,u19,u20,u21,u22,.pointer (some ⟨pb,0,none⟩),.pointer (some ⟨pb,0,none⟩),.pointer (some ⟨pb,0,none⟩),.chan (some cb),.pointer (some ⟨tb,0,none⟩),.pointer (some ⟨tb,0,none⟩),.pointer (some ⟨tb,1,none⟩),.int .i64 id],[]⟩ (.inRegion aN (Region.linearise.go .any aN 1 t #[true,true,true,true,true,true,true,true,false] [])::kk)) cs) w)(t:Nat):LoneTo Tryz.prog Q (G ((base 37).at ⟨#[.pointer (some ⟨pb,0,none⟩),.pointer (some ⟨tb,0,none⟩),u2,u3,u4,u5,u6,u7,u8,u9,u10,u11,u12,u13,u14,u15,u16,u17,u18,u19,u20,u21,u22,.pointer (some ⟨pb,0,none⟩),undef,undef,undef,.pointer (some ⟨tb,0,none⟩),.pointer (some ⟨tb,0,none⟩),undef,undef],[]⟩ (.inRegion aN (Region.linearise.go .any aN 6 t #[true,false,false,false,true,true,false,false,false] [])::kk)) cs) w:=by
 obtain⟨i,hi,d,e⟩:=fJ (md:=.any) (ops:=aN) (fuel:=5) (t:=t) (listed:= #[true,false,false,false,true,true,false,false,false]) (rs:= [1,6]) (by kernel_rfl) (by simp);rw[e];rcases aA.1 hi with rfl|hi
 ·skip
  refine LoneTo.goes (n:=1) ?_;simp only[aN,Tryz.f37];s_op
  s_stop
  exact Rs a c b d
 ·rw[au.1 hi]
  refine LoneTo.goes (n:=1) ?_;simp only[aN,Tryz.f37];s_op
  s_stop
  exact Rw a c b d
theorem U8(a:w.cell? ⟨pb,0,none⟩=some (.chan (some cb)))(c:w.cell? ⟨tb,1,none⟩=some (.int .i64 id))(b:∀t,LoneTo Tryz.prog Q (G ((base 37).at ⟨#[.pointer (some ⟨pb,0,none⟩),.pointer (some ⟨tb,0,none⟩),u2,u3,u4,u5,u6,u7,u8,u9,u10,u11,u12,u13,u14,u15,u16,u17,u18,u19,u20,u21,u22,.pointer (some ⟨pb,0,none⟩),.pointer (some ⟨pb,0,none⟩),.pointer (some ⟨pb,0,none⟩),.chan (some cb),.pointer (some ⟨tb,0,none⟩),.pointer (some ⟨tb,0,none⟩),.pointer (some ⟨tb,1,none⟩),.int .i64 id],[]⟩ (.inRegion aN (Region.linearise.go .any aN 1 t #[true,true,true,true,true,true,true,true,false] [])::kk)) cs) w)(t:Nat):LoneTo Tryz.prog Q (G ((base 37).at ⟨#[.pointer (some ⟨pb,0,none⟩),.pointer (some ⟨tb,0,none⟩),u2,u3,u4,u5,u6,u7,u8,u9,u10,u11,u12,u13,u14,u15,u16,u17,u18,u19,u20,u21,u22,undef,undef,undef,undef,.pointer (some ⟨tb,0,none⟩),.pointer (some ⟨tb,0,none⟩),.pointer (some ⟨tb,1,none⟩),undef],[]⟩ (.inRegion aN (Region.linearise.go .any aN 6 t #[false,false,false,false,true,true,true,false,false] [])::kk)) cs) w:=by
 obtain⟨i,hi,d,e⟩:=fJ (md:=.any) (ops:=aN) (fuel:=5) (t:=t) (listed:= #[false,false,false,false,true,true,true,false,false]) (rs:= [0,7]) (by kernel_rfl) (by simp);rw[e];rcases aA.1 hi with rfl|hi
 ·skip
  refine LoneTo.goes (n:=1) ?_;simp only[aN,Tryz.f37];s_op
  s_stop
  exact Rw a c b d
 ·rw[au.1 hi]
  refine LoneTo.goes (n:=1) ?_;simp only[aN,Tryz.f37];s_op
  s_stop
  exact U7 a c b d
theorem U5(a:w.cell? ⟨pb,0,none⟩=some (.chan (some cb)))(c:w.cell? ⟨tb,1,none⟩=some (.int .i64 id))(b:∀t,LoneTo Tryz.prog Q (G ((base 37).at ⟨#[.pointer (some ⟨pb,0,none⟩),.pointer (some ⟨tb,0,none⟩),u2,u3,u4,u5,u6,u7,u8,u9,u10,u11,u12,u13,u14,u15,u16,u17,u18,u19,u20,u21,u22,.pointer (some ⟨pb,0,none⟩),.pointer (some ⟨pb,0,none⟩),.pointer (some ⟨pb,0,none⟩),.chan (some cb),.pointer (some ⟨tb,0,none⟩),.pointer (some ⟨tb,0,none⟩),.pointer (some ⟨tb,1,none⟩),.int .i64 id],[]⟩ (.inRegion aN (Region.linearise.go .any aN 1 t #[true,true,true,true,true,true,true,true,false] [])::kk)) cs) w)(t:Nat):LoneTo Tryz.prog Q (G ((base 37).at ⟨#[.pointer (some ⟨pb,0,none⟩),.pointer (some ⟨tb,0,none⟩),u2,u3,u4,u5,u6,u7,u8,u9,u10,u11,u12,u13,u14,u15,u16,u17,u18,u19,u20,u21,u22,.pointer (some ⟨pb,0,none⟩),.pointer (some ⟨pb,0,none⟩),undef,undef,undef,undef,undef,undef],[]⟩ (.inRegion aN (Region.linearise.go .any aN 7 t #[true,true,false,false,false,false,false,false,false] [])::kk)) cs) w:=by
 obtain⟨i,hi,d,e⟩:=fJ (md:=.any) (ops:=aN) (fuel:=6) (t:=t) (listed:= #[true,true,false,false,false,false,false,false,false]) (rs:= [2,4]) (by kernel_rfl) (by simp);rw[e];rcases aA.1 hi with rfl|hi
 ·skip
  refine LoneTo.goes (n:=1) ?_;simp only[aN,Tryz.f37];s_op
  s_stop
  exact U4 a c b d
 ·rw[au.1 hi]
  refine LoneTo.goes (n:=1) ?_;simp only[aN,Tryz.f37];s_op
  s_stop
  exact Ru a c b d
theorem Ry(a:w.cell? ⟨pb,0,none⟩=some (.chan (some cb)))(c:w.cell? ⟨tb,1,none⟩=some (.int .i64 id))(b:∀t,LoneTo Tryz.prog Q (G ((base 37).at ⟨#[.pointer (some ⟨pb,0,none⟩),.pointer (some ⟨tb,0,none⟩),u2,u3,u4,u5,u6,u7,u8,u9,u10,u11,u12,u13,u14,u15,u16,u17,u18,u19,u20,u21,u22,.pointer (some ⟨pb,0,none⟩),.pointer (some ⟨pb,0,none⟩),.pointer (some ⟨pb,0,none⟩),.chan (some cb),.pointer (some ⟨tb,0,none⟩),.pointer (some ⟨tb,0,none⟩),.pointer (some ⟨tb,1,none⟩),.int .i64 id],[]⟩ (.inRegion aN (Region.linearise.go .any aN 1 t #[true,true,true,true,true,true,true,true,false] [])::kk)) cs) w)(t:Nat):LoneTo Tryz.prog Q (G ((base 37).at ⟨#[.pointer (some ⟨pb,0,none⟩),.pointer (some ⟨tb,0,none⟩),u2,u3,u4,u5,u6,u7,u8,u9,u10,u11,u12,u13,u14,u15,u16,u17,u18,u19,u20,u21,u22,.pointer (some ⟨pb,0,none⟩),undef,undef,undef,.pointer (some ⟨tb,0,none⟩),undef,undef,undef],[]⟩ (.inRegion aN (Region.linearise.go .any aN 7 t #[true,false,false,false,true,false,false,false,false] [])::kk)) cs) w:=by
 obtain⟨i,hi,d,e⟩:=fJ (md:=.any) (ops:=aN) (fuel:=6) (t:=t) (listed:= #[true,false,false,false,true,false,false,false,false]) (rs:= [1,5]) (by kernel_rfl) (by simp);rw[e];rcases aA.1 hi with rfl|hi
 ·skip
  refine LoneTo.goes (n:=1) ?_;simp only[aN,Tryz.f37];s_op
  s_stop
  exact Ru a c b d
 ·rw[au.1 hi]
  refine LoneTo.goes (n:=1) ?_;simp only[aN,Tryz.f37];s_op
  s_stop
  exact Rx a c b d
theorem U9(a:w.cell? ⟨pb,0,none⟩=some (.chan (some cb)))(c:w.cell? ⟨tb,1,none⟩=some (.int .i64 id))(b:∀t,LoneTo Tryz.prog Q (G ((base 37).at ⟨#[.pointer (some ⟨pb,0,none⟩),.pointer (some ⟨tb,0,none⟩),u2,u3,u4,u5,u6,u7,u8,u9,u10,u11,u12,u13,u14,u15,u16,u17,u18,u19,u20,u21,u22,.pointer (some ⟨pb,0,none⟩),.pointer (some ⟨pb,0,none⟩),.pointer (some ⟨pb,0,none⟩),.chan (some cb),.pointer (some ⟨tb,0,none⟩),.pointer (some ⟨tb,0,none⟩),.pointer (some ⟨tb,1,none⟩),.int .i64 id],[]⟩ (.inRegion aN (Region.linearise.go .any aN 1 t #[true,true,true,true,true,true,true,true,false] [])::kk)) cs) w)(t:Nat):LoneTo Tryz.prog Q (G ((base 37).at ⟨#[.pointer (some ⟨pb,0,none⟩),.pointer (some ⟨tb,0,none⟩),u2,u3,u4,u5,u6,u7,u8,u9,u10,u11,u12,u13,u14,u15,u16,u17,u18,u19,u20,u21,u22,undef,undef,undef,undef,.pointer (some ⟨tb,0,none⟩),.pointer (some ⟨tb,0,none⟩),undef,undef],[]⟩ (.inRegion aN (Region.linearise.go .any aN 7 t #[false,false,false,false,true,true,false,false,false] [])::kk)) cs) w:=by
 obtain⟨i,hi,d,e⟩:=fJ (md:=.any) (ops:=aN) (fuel:=6) (t:=t) (listed:= #[false,false,false,false,true,true,false,false,false]) (rs:= [0,6]) (by kernel_rfl) (by simp);rw[e];rcases aA.1 hi with rfl|hi
 ·skip
  refine LoneTo.goes (n:=1) ?_;simp only[aN,Tryz.f37];s_op
  s_stop
  exact Rx a c b d
 ·rw[au.1 hi]
  refine LoneTo.goes (n:=1) ?_;simp only[aN,Tryz.f37];s_op
  s_stop
  exact U8 a c b d
theorem U6(a:w.cell? ⟨pb,0,none⟩=some (.chan (some cb)))(c:w.cell? ⟨tb,1,none⟩=some (.int .i64 id))(b:∀t,LoneTo Tryz.prog Q (G ((base 37).at ⟨#[.pointer (some ⟨pb,0,none⟩),.pointer (some ⟨tb,0,none⟩),u2,u3,u4,u5,u6,u7,u8,u9,u10,u11,u12,u13,u14,u15,u16,u17,u18,u19,u20,u21,u22,.pointer (some ⟨pb,0,none⟩),.pointer (some ⟨pb,0,none⟩),.pointer (some ⟨pb,0,none⟩),.chan (some cb),.pointer (some ⟨tb,0,none⟩),.pointer (some ⟨tb,0,none⟩),.pointer (some ⟨tb,1,none⟩),.int .i64 id],[]⟩ (.inRegion aN (Region.linearise.go .any aN 1 t #[true,true,true,true,true,true,true,true,false] [])::kk)) cs) w)(t:Nat):LoneTo Tryz.prog Q (G ((base 37).at ⟨#[.pointer (some ⟨pb,0,none⟩),.pointer (some ⟨tb,0,none⟩),u2,u3,u4,u5,u6,u7,u8,u9,u10,u11,u12,u13,u14,u15,u16,u17,u18,u19,u20,u21,u22,.pointer (some ⟨pb,0,none⟩),undef,undef,undef,undef,undef,undef,undef],[]⟩ (.inRegion aN (Region.linearise.go .any aN 8 t #[true,false,false,false,false,false,false,false,false] [])::kk)) cs) w:=by
 obtain⟨i,hi,d,e⟩:=fJ (md:=.any) (ops:=aN) (fuel:=7) (t:=t) (listed:= #[true,false,false,false,false,false,false,false,false]) (rs:= [1,4]) (by kernel_rfl) (by simp);rw[e];rcases aA.1 hi with rfl|hi
 ·skip
  refine LoneTo.goes (n:=1) ?_;simp only[aN,Tryz.f37];s_op
  s_stop
  exact U5 a c b d
 ·rw[au.1 hi]
  refine LoneTo.goes (n:=1) ?_;simp only[aN,Tryz.f37];s_op
  s_stop
  exact Ry a c b d
theorem Va(a:w.cell? ⟨pb,0,none⟩=some (.chan (some cb)))(c:w.cell? ⟨tb,1,none⟩=some (.int .i64 id))(b:∀t,LoneTo Tryz.prog Q (G ((base 37).at ⟨#[.pointer (some ⟨pb,0,none⟩),.pointer (some ⟨tb,0,none⟩),u2,u3,u4,u5,u6,u7,u8,u9,u10,u11,u12,u13,u14,u15,u16,u17,u18,u19,u20,u21,u22,.pointer (some ⟨pb,0,none⟩),.pointer (some ⟨pb,0,none⟩),.pointer (some ⟨pb,0,none⟩),.chan (some cb),.pointer (some ⟨tb,0,none⟩),.pointer (some ⟨tb,0,none⟩),.pointer (some ⟨tb,1,none⟩),.int .i64 id],[]⟩ (.inRegion aN (Region.linearise.go .any aN 1 t #[true,true,true,true,true,true,true,true,false] [])::kk)) cs) w)(t:Nat):LoneTo Tryz.prog Q (G ((base 37).at ⟨#[.pointer (some ⟨pb,0,none⟩),.pointer (some ⟨tb,0,none⟩),u2,u3,u4,u5,u6,u7,u8,u9,u10,u11,u12,u13,u14,u15,u16,u17,u18,u19,u20,u21,u22,undef,undef,undef,undef,.pointer (some ⟨tb,0,none⟩),undef,undef,undef],[]⟩ (.inRegion aN (Region.linearise.go .any aN 8 t #[false,false,false,false,true,false,false,false,false] [])::kk)) cs) w:=by
 obtain⟨i,hi,d,e⟩:=fJ (md:=.any) (ops:=aN) (fuel:=7) (t:=t) (listed:= #[false,false,false,false,true,false,false,false,false]) (rs:= [0,5]) (by kernel_rfl) (by simp);rw[e];rcases aA.1 hi with rfl|hi
 ·skip
  refine LoneTo.goes (n:=1) ?_;simp only[aN,Tryz.f37];s_op
  s_stop
  exact Ry a c b d
 ·rw[au.1 hi]
  refine LoneTo.goes (n:=1) ?_;simp only[aN,Tryz.f37];s_op
  s_stop
  exact U9 a c b d
theorem Vb(a:w.cell? ⟨pb,0,none⟩=some (.chan (some cb)))(c:w.cell? ⟨tb,1,none⟩=some (.int .i64 id))(b:∀t,LoneTo Tryz.prog Q (G ((base 37).at ⟨#[.pointer (some ⟨pb,0,none⟩),.pointer (some ⟨tb,0,none⟩),u2,u3,u4,u5,u6,u7,u8,u9,u10,u11,u12,u13,u14,u15,u16,u17,u18,u19,u20,u21,u22,.pointer (some ⟨pb,0,none⟩),.pointer (some ⟨pb,0,none⟩),.pointer (some ⟨pb,0,none⟩),.chan (some cb),.pointer (some ⟨tb,0,none⟩),.pointer (some ⟨tb,0,none⟩),.pointer (some ⟨tb,1,none⟩),.int .i64 id],[]⟩ (.inRegion aN (Region.linearise.go .any aN 1 t #[true,true,true,true,true,true,true,true,false] [])::kk)) cs) w)(t:Nat):LoneTo Tryz.prog Q (G ((base 37).at ⟨#[.pointer (some ⟨pb,0,none⟩),.pointer (some ⟨tb,0,none⟩),u2,u3,u4,u5,u6,u7,u8,u9,u10,u11,u12,u13,u14,u15,u16,u17,u18,u19,u20,u21,u22,undef,undef,undef,undef,undef,undef,undef,undef],[]⟩ (.inRegion aN (Region.linearise.go .any aN 9 t #[false,false,false,false,false,false,false,false,false] [])::kk)) cs) w:=by
 obtain⟨i,hi,d,e⟩:=fJ (md:=.any) (ops:=aN) (fuel:=8) (t:=t) (listed:= #[false,false,false,false,false,false,false,false,false]) (rs:= [0,4]) (by kernel_rfl) (by simp);rw[e];rcases aA.1 hi with rfl|hi
 ·skip
  refine LoneTo.goes (n:=1) ?_;simp only[aN,Tryz.f37];s_op
  s_stop
  exact U6 a c b d
 ·rw[au.1 hi]
  refine LoneTo.goes (n:=1) ?_;simp only[aN,Tryz.f37];s_op
  s_stop
  exact Va a c b d
end
theorem Lz{P:Program}{c:Bool}{b:Frame}{a:Act}{k:List Item}{cs:List Frame}{w:World}{id:Nat}{ops:Array Oper}:stepG P c (G (b.at a (.code (.region id ops true)::k)) cs) w=.go (G (b.at a (.inRegion ops (Region.schedule (P.follows .mixedOrders) ops (w.tape w.drawn (.order b.fn id)))::k)) cs) {w with drawn:=w.drawn+1}:=by
 simp[G,stepG,stepG.exec,Frame.at,choose,Sem.run,Question.forced,Question.cut]
set_option maxRecDepth 100000 in
theorem QY{w:World}{b:Nat}{c:Array Value}{t:TypeId}(k:w.heap[b]? =some (.cells c t (0,0))) (hc:0<c.size):(binOp .neq 39 (.pointer (some ⟨b,0,none⟩)) (.pointer (some ⟨b,0,none⟩))).run Tryz.prog w=.ok (.bool false) w:=by
 have d:Tryz.prog.underlying 39=some (.pointer 130):=by kernel_rfl
 have hz:Nat.beq (bZ Tryz.prog 130) 0=false:=by kernel_rfl
 have f:eL w.heap ⟨b,0,none⟩:=⟨c,t,k,hc⟩;have h:T9 Tryz.prog 39 true (.pointer (some ⟨b,0,none⟩)) (.pointer (some ⟨b,0,none⟩)) (fun v _=>v=.bool false) w.heap:=by
  unfold T9;rw[d];simp only[];rw[hz];refine⟨trivial,fun x y hx j=>?_,by simp⟩
  cases hx;cases j;exact⟨f,f⟩
 unfold T9 at h;rw[d]at h;obtain⟨_,a,_⟩:=h;obtain⟨_,_,v,S,g,n,i⟩:=BV (P:=Tryz.prog) (t:=39) (neg:=true) (x:=.pointer (some ⟨b,0,none⟩)) (y:=.pointer (some ⟨b,0,none⟩)) (K:=fun v S=>v=.bool false∧R9 S w.heap) (h:=w.heap) (by
  unfold T9
  rw[d]
  simp only[]
  rw[hz]
  exact⟨trivial,a,by simp,a⟩)
 obtain⟨rfl,m⟩:=g;exact i w m
set_option maxRecDepth 100000 in
set_option maxHeartbeats 4000000 in
theorem Rh{w:World}{pb tb cb cap s r:Nat}{id:Int}{buf:Array Value}(k:w.heap[pb]? =some (.cells #[.chan (some cb)] 130 (0,0))) (b:w.heap[tb]? =some (.cells #[.pointer (some ⟨pb,0,none⟩),.int .i64 id,.bool true] 140 (0,0))) (hc:w.heap[cb]? =some (.chan cap buf false s r false)) (v:buf.size<cap) (g:pb≠tb) (f:cb≠tb):
  Calls Tryz.prog 37 #[.pointer (some ⟨pb,0,none⟩),.pointer (some ⟨tb,0,none⟩)] w fun e w'=>e=.returned (.int .i64 0)∧∃n,w'=({w.setCell ⟨tb,2,none⟩ (.bool false)with drawn:=n}:World).setChan cb cap (buf.push (.int .i64 id)) false (s+1) r false:=by
 refine calls_of_loneTo fun cs=>?_
 have e:Frame.enter Tryz.prog 37 #[.pointer (some ⟨pb,0,none⟩),.pointer (some ⟨tb,0,none⟩)] .normal=(base 37).at ⟨#[.pointer (some ⟨pb,0,none⟩),.pointer (some ⟨tb,0,none⟩),undef,undef,undef,undef,undef,undef,undef,undef,undef,undef,undef,undef,undef,undef,undef,undef,undef,undef,undef,undef,undef,undef,undef,undef,undef,undef,undef,undef,undef],[]⟩ [.code (Tryz.f37.body.getD .skip)]:=by
  simp[Frame.enter,Frame.at,Tryz.func37,base,Tryz.f37]
 rw[e];have u:=vo b (i:=0) rfl;have o:=vo b (i:=2) rfl;have q:=Pm b (i:=2);have p:=QY k (by simp);refine LoneTo.goes (n:=52) ?_;simp only[Tryz.f37,mV];s_c stepG_seq
 s_reg
 s_op
 s_c stepG_region_end
 s_c stepG_seq
 s_c stepG_seq
 s_reg
 s_op
 s_op
 s_op
 s_op
 s_call Tryz.func79 (by kernel_rfl) Tryz.f79
 s_c stepG_seq
 s_reg
 s_op
 s_c stepG_region_end
 s_c stepG_seq
 s_reg
 s_op
 s_op
 s_op
 s_op
 s_op
 s_op
 s_op
 s_op
 s_op
 s_c stepG_region_end
 s_c stepG_ret'
 s_leave1 Tryz.func79
 s_op
 s_op
 s_op
 s_op
 s_op
 s_op
 s_op
 s_op
 s_op
 s_op
 s_c stepG_region_end
 s_cond false
 s_c stepG_skip
 s_c stepG_seq
 s_reg
 s_op
 s_op
 s_op
 s_op
 s_c stepG_region_end
 s_c stepG_seq
 s_in
 rw[Lz];simp only[goes_go];refine⟨trivial,?_⟩;s_stop
 have hm:Tryz.prog.follows .mixedOrders=true:=Tryz.mixed;simp only[Region.schedule,hm,Bool.true_or,if_true,Region.linearise];have m:=Upd.hset (M:=(· =tb)) w.heap (a:=⟨tb,2,none⟩) (.bool false) rfl
 have j:=m.get k (fun e=>g e)
 have d:=m.get hc (fun e=>f e)
 refine Vb (pb:=pb) (tb:=tb) (cb:=cb) (id:=id) (vo j (i:=0) rfl) ?_ (fun t=>?_) _
 ·show(w.setCell ⟨tb,2,none⟩ (.bool false)).cell? ⟨tb,1,none⟩=_
  rw[World.cell?_setCell_other _ _ _ _ (by simp)];exact vo b (i:=1) rfl
 ·obtain⟨i,hi,y,e⟩:=fJ (md:=.any) (ops:=aN) (fuel:=0) (t:=t) (listed:= #[true,true,true,true,true,true,true,true,false]) (rs:= [8]) (by kernel_rfl) (by simp)
  rw[e,au.1 hi];simp only[aN,Tryz.f37,Region.linearise.go,List.reverse_nil];refine LoneTo.step (step_lone_send_room (c:=cb) (cap:=cap) (buf:=buf) (s:=s) (r:=r) (tm:=false) (stepG_comm (cases:= #[scase cb (.int .i64 id) (.tuple #[])]) (blocking:=true) (shape:=.send) (w':={w.setCell ⟨tb,2,none⟩ (.bool false)with drawn:=w.drawn+1}) rfl rfl (by decide) (by simp[execOp,scase,Act.eval])) d v) ?_
  rw[Frame.finish_at];walk_nrm
  refine LoneTo.goes (n:=6) ?_;s_c stepG_region_end
  s_c stepG_seq
  s_reg
  s_op
  s_c stepG_region_end
  s_c stepG_ret'
  s_stop
  refine LoneTo.done ⟨.returned (.int .i64 0),_,rfl,⟨rfl,_,rfl⟩,rfl,rfl,rfl,rfl,_,Tryz.func37,by simp[results,Tryz.f37,Frame.at]⟩
end Go.Proofs
namespace Go.Proofs
open Go.Lift
def KL(s:ByteArray)(i:Nat):Int:=match s[i]? with|some b=>(b.toNat:Int)|none=>0
def TY(b:Int)(n:Int):Int:=IntKind.wrap .u64 ((IntKind.wrap .u64 b)*2^(min n.toNat (IntKind.bits .u64)))
def wj(s:ByteArray):Nat→Int→Int
 |0,t=>t
 |k+1,t=>wj s k (Eu t (if k=0 then IntKind.wrap .u64 (KL s 0)else TY (KL s k) ((8*k:Nat):Int)))
def xZ(s:ByteArray):Int:=wj s s.size 0
theorem sN{s:ByteArray}{i:Nat}(h:i<s.size):∃b,s[i]? =some b∧KL s i=(b.toNat:Int):=⟨s[i],getElem?_pos s i h,by simp[KL,getElem?_pos s i h]⟩
theorem NB{s:ByteArray}(E:s.size≤8){h:ad}{K:Int→ad→Prop}(g:K (xZ s) h):HC PG uZ [.string s] [.c (.int .u64)] K h:=by
 refine M3 s ?_;unfold Fp;refine Join.intro (fun t f=>f=h∧1≤s.size∧wj s 1 t=wj s s.size 0) (fun D o=>?_) ?_
 ·refine Join.intro (fun t f=>f=h∧2≤s.size∧wj s 2 t=wj s s.size 0) (fun J p=>?_) ?_
  ·refine Join.intro (fun t f=>f=h∧3≤s.size∧wj s 3 t=wj s s.size 0) (fun O j=>?_) ?_
   ·refine Join.intro (fun t f=>f=h∧4≤s.size∧wj s 4 t=wj s s.size 0) (fun R4 n=>?_) ?_
    ·refine Join.intro (fun t f=>f=h∧5≤s.size∧wj s 5 t=wj s s.size 0) (fun P m=>?_) ?_
     ·refine Join.intro (fun t f=>f=h∧6≤s.size∧wj s 6 t=wj s s.size 0) (fun F k=>?_) ?_
      ·refine Join.intro (fun t f=>f=h∧7≤s.size∧wj s 7 t=wj s s.size 0) (fun Q q=>?_) ?_
       ·refine CondP.intro (fun e=>?_) fun A=>?_
        ·have e:s.size=8:=by have:=of_decide_eq_true (by simpa using e:decide ((s.size:Int)=8)=true);omega
         obtain⟨b,a,hv⟩:=sN (s:=s) (i:=7) (by omega);refine⟨b,by decide,a,by decide,q _ _ ⟨rfl,by omega,?_⟩⟩
         rw[e,←hv];rfl
        refine CondP.intro (fun e=>?_) fun y=>?_
        ·have e:s.size=7:=by have:=of_decide_eq_true (by simpa using e:decide ((s.size:Int)=7)=true);omega
         exact q _ _ ⟨rfl,by omega,by rw[e]⟩
        refine CondP.intro (fun e=>?_) fun w=>?_
        ·have e:s.size=6:=by have:=of_decide_eq_true (by simpa using e:decide ((s.size:Int)=6)=true);omega
         exact k _ _ ⟨rfl,by omega,by rw[e]⟩
        refine CondP.intro (fun e=>?_) fun B=>?_
        ·have e:s.size=5:=by have:=of_decide_eq_true (by simpa using e:decide ((s.size:Int)=5)=true);omega
         exact m _ _ ⟨rfl,by omega,by rw[e]⟩
        refine CondP.intro (fun e=>?_) fun u=>?_
        ·have e:s.size=4:=by have:=of_decide_eq_true (by simpa using e:decide ((s.size:Int)=4)=true);omega
         exact n _ _ ⟨rfl,by omega,by rw[e]⟩
        refine CondP.intro (fun e=>?_) fun z=>?_
        ·have e:s.size=3:=by have:=of_decide_eq_true (by simpa using e:decide ((s.size:Int)=3)=true);omega
         exact j _ _ ⟨rfl,by omega,by rw[e]⟩
        refine CondP.intro (fun e=>?_) fun v=>?_
        ·have e:s.size=2:=by have:=of_decide_eq_true (by simpa using e:decide ((s.size:Int)=2)=true);omega
         exact p _ _ ⟨rfl,by omega,by rw[e]⟩
        refine CondP.intro (fun e=>?_) fun C=>?_
        ·have e:s.size=1:=by have:=of_decide_eq_true (by simpa using e:decide ((s.size:Int)=1)=true);omega
         exact o _ _ ⟨rfl,by omega,by rw[e]⟩
        have e:s.size=0:=by
         have R:¬(s.size:Int)=1:=by simpa using C
         have H:¬(s.size:Int)=2:=by simpa using v
         have I:¬(s.size:Int)=3:=by simpa using z
         have q4:¬(s.size:Int)=4:=by simpa using u
         have M:¬(s.size:Int)=5:=by simpa using B
         have G:¬(s.size:Int)=6:=by simpa using w
         have L:¬(s.size:Int)=7:=by simpa using y
         have N:¬(s.size:Int)=8:=by simpa using A
         omega
        unfold xZ at g;rw[e]at g;exact g
       ·rintro t _ ⟨rfl,c,d⟩
        obtain⟨b,a,hv⟩:=sN (s:=s) (i:=6) (by omega);refine⟨b,by decide,a,by decide,k _ _ ⟨rfl,by omega,?_⟩⟩
        rw[←d,←hv];rfl
      ·rintro t _ ⟨rfl,c,d⟩
       obtain⟨b,a,hv⟩:=sN (s:=s) (i:=5) (by omega);refine⟨b,by decide,a,by decide,m _ _ ⟨rfl,by omega,?_⟩⟩
       rw[←d,←hv];rfl
     ·rintro t _ ⟨rfl,c,d⟩
      obtain⟨b,a,hv⟩:=sN (s:=s) (i:=4) (by omega);refine⟨b,by decide,a,by decide,n _ _ ⟨rfl,by omega,?_⟩⟩
      rw[←d,←hv];rfl
    ·rintro t _ ⟨rfl,c,d⟩
     obtain⟨b,a,hv⟩:=sN (s:=s) (i:=3) (by omega);refine⟨b,by decide,a,by decide,j _ _ ⟨rfl,by omega,?_⟩⟩
     rw[←d,←hv];rfl
   ·rintro t _ ⟨rfl,c,d⟩
    obtain⟨b,a,hv⟩:=sN (s:=s) (i:=2) (by omega);refine⟨b,by decide,a,by decide,p _ _ ⟨rfl,by omega,?_⟩⟩
    rw[←d,←hv];rfl
  ·rintro t _ ⟨rfl,c,d⟩
   obtain⟨b,a,hv⟩:=sN (s:=s) (i:=1) (by omega);refine⟨b,by decide,a,by decide,o _ _ ⟨rfl,by omega,?_⟩⟩
   rw[←d,←hv];rfl
 ·rintro t _ ⟨rfl,c,d⟩
  obtain⟨b,a,hv⟩:=sN (s:=s) (i:=0) (by omega);refine⟨b,by decide,a,?_⟩
  unfold xZ at g;rw[←d]at g;rw[←hv];exact g
end Go.Proofs
namespace Go.Proofs
open Go.Lift
def qL(m:Int)(s:Q4):Q4:=
 let r:=oG 2 (s.1,s.2.1,s.2.2.1,dy s.2.2.2 m)
 (dy r.1 m,r.2)
theorem NI{m:Int}{h:ad}{b:Nat}{t:TypeId}{s:Q4}(d:h[b]? =some (.cells (q4 s) t (0,0))) {K:Unit→ad→Prop}
  (p:∀h',h'[b]? =some (.cells (q4 (qL m s)) t (0,0))→Upd (· =b) h h'→K () h'):HC PG mE [.pointer (some ⟨b,0,none⟩),.int .u64 m] [] K h:=by
 refine B8 _ _ ?_;unfold uz bJ dH cp iR;have c:∀{h:ad} {s:Q4} {i:Nat},h[b]? =some (.cells (q4 s) t (0,0))→aR h ⟨b,0+i,none⟩=(q4 s)[i]?:=fun d=>by rw[aL];exact bA d
 have w:∀{h:ad} {s:Q4} {i:Nat},h[b]? =some (.cells (q4 s) t (0,0))→i<4→Wr h ⟨b,0+i,none⟩:=fun d hi=>by rw[aL];exact iv d hi
 simp only[show((0:Int)).toNat*1=0 from rfl,show((3:Int)).toNat*1=3 from rfl]
 refine⟨_,rfl,by decide,_,c (i:=3) d,_,rfl,by decide,w (i:=3) d (by decide),py (s':=(s.1,s.2.1,s.2.2.1,dy s.2.2.2 m)) d rfl fun y g f=>?_⟩
 refine GR (n:=2) (by omega) g fun v a o=>?_
 have q:qL m s=(dy (oG 2 (s.1,s.2.1,s.2.2.1,dy s.2.2.2 m)).1 m,(oG 2 (s.1,s.2.1,s.2.2.1,dy s.2.2.2 m)).2):=by unfold qL;rfl
 rw[q]at p;generalize oG 2 (s.1,s.2.1,s.2.2.1,dy s.2.2.2 m)=r at a p;refine⟨_,rfl,by decide,_,c (i:=0) a,_,rfl,by decide,w (i:=0) a (by decide),py (s':=(dy r.1 m,r.2)) a rfl fun u k j=>?_⟩
 exact p _ k (f.tr (o.tr j))
def Cs:Nat→ByteArray→Q4→ByteArray×Q4
 |0,s,q=>(s,q)
 |n+1,s,q=>if 8≤s.size then Cs n (s.extract 8 s.size) (qL (xZ (s.extract 0 8)) q)else(s,q)
def U0(r:Q4):Int:=dy (dy (dy r.1 r.2.1) r.2.2.1) r.2.2.2
def TG(q:Q4):Int:=U0 (oG 4 (q.1,q.2.1,dy q.2.2.1 255,q.2.2.2))
def VP(n:Nat)(g:ByteArray×Q4):Int:=TG (qL (Eu (xZ g.1) (TY (n:Int) 56)) g.2)
def Lx(k0 k1:Int)(s:ByteArray):Int:=
 VP s.size (Cs s.size s (dy k0 8317987319222330741,dy k1 7237128888997146477,dy k0 7816392313619706465,dy k1 8387220255154660723))
theorem TH{a:ad}{b:Nat}{t:TypeId}{r:Q4}(j:a[b]? =some (.cells (q4 r) t (0,0))) {K:Int→Prop} (g:K (U0 r)):
  (((0:Int)≤(0:Int)∧(0:Int)<((4:Nat):Int))∧
   ∃v30:Int,aR a (adr ⟨b,0,none⟩ ((0:Int).toNat*1))=some (.int .u64 v30)∧
   (((0:Int)≤(1:Int)∧(1:Int)<((4:Nat):Int))∧
    ∃v31:Int,aR a (adr ⟨b,0,none⟩ ((1:Int).toNat*1))=some (.int .u64 v31)∧
    Bd (IntKind.wrap .u64 (aq (IntKind.bits .u64) v30^^^aq (IntKind.bits .u64) v31).toNat:Int) (fun n32=>
     (((0:Int)≤(2:Int)∧(2:Int)<((4:Nat):Int))∧
      ∃v33:Int,aR a (adr ⟨b,0,none⟩ ((2:Int).toNat*1))=some (.int .u64 v33)∧
      Bd (IntKind.wrap .u64 (aq (IntKind.bits .u64) n32^^^aq (IntKind.bits .u64) v33).toNat:Int) (fun d=>
       (((0:Int)≤(3:Int)∧(3:Int)<((4:Nat):Int))∧
        ∃v35:Int,aR a (adr ⟨b,0,none⟩ ((3:Int).toNat*1))=some (.int .u64 v35)∧
        Bd (IntKind.wrap .u64 (aq (IntKind.bits .u64) d^^^aq (IntKind.bits .u64) v35).toNat:Int) (fun f=>
         K f))))))):=by
 have c:∀{i:Nat},aR a ⟨b,0+i,none⟩=(q4 r)[i]?:=by intro i;rw[aL];exact bA j
 exact⟨by decide,_,c (i:=0),by decide,_,c (i:=1),by decide,_,c (i:=2),by decide,_,c (i:=3),g⟩
theorem TF{a:ad}{b:Nat}{t:TypeId}{q:Q4}(o:a[b]? =some (.cells (q4 q) t (0,0))) {K:Unit→ad→Prop}
  (s:∀h',h'[b]? =some (.cells (q4 (oG 4 (q.1,q.2.1,dy q.2.2.1 255,q.2.2.2))) t (0,0))→Upd (· =b) a h'→K () h'):
  (((0:Int)≤(2:Int)∧(2:Int)<((4:Nat):Int))∧
   ∃v25:Int,aR a (adr ⟨b,0,none⟩ ((2:Int).toNat*1))=some (.int .u64 v25)∧
   Bd (IntKind.wrap .u64 (aq (IntKind.bits .u64) v25^^^aq (IntKind.bits .u64) 255).toNat:Int) (fun d=>
    (((0:Int)≤(2:Int)∧(2:Int)<((4:Nat):Int))∧
     (Wr a (adr ⟨b,0,none⟩ ((2:Int).toNat*1))∧
      At (hset a (adr ⟨b,0,none⟩ ((2:Int).toNat*1)) (.int .u64 d)) (fun j=>
       HC PG iS [.pointer (some ⟨b,0,none⟩),.int .i64 4] [] K j))))):=by
 have c:∀{i:Nat},aR a ⟨b,0+i,none⟩=(q4 q)[i]?:=by intro i;rw[aL];exact bA o
 refine⟨by decide,_,c (i:=2),by decide,by rw[show((2:Int)).toNat*1=2 from rfl,bO];exact iv o (by simp[q4]),?_⟩
 refine py (s':=(q.1,q.2.1,dy q.2.2.1 255,q.2.2.2)) o rfl fun u k m=>?_
 exact GR (n:=4) (by omega) k fun p g f=>s p g (m.tr f)
theorem bV{h:ad}{k:ad→Prop}(a:k h):At h k:=a
theorem UB{k0 k1:Int}{s:ByteArray}{h:ad}{K:Int→ad→Prop}(F:∀u,Upd No h u→K (Lx k0 k1 s) u):HC PG BP [.agg #[.int .u64 k0,.int .u64 k1],.string s] [.c (.int .u64)] K h:=by
 refine PM (k0,k1) s ?_;unfold HF bJ dH ah cp nv iR VS Ox OB SF;have y:=Upd.hnew No h [.int .u64 k0,.int .u64 k1] ll;have b1:=db h [.int .u64 k0,.int .u64 k1] ll;have Q:=ly h [.int .u64 k0,.int .u64 k1] ll;refine bV ?_;simp only[gf h];generalize hnew h [.int .u64 k0,.int .u64 k1] ll=h1 at y b1 Q;refine⟨k0,by rw[bO,bA b1];rfl,k1,by rw[bO,bA b1];rfl,k0,by rw[bO,bA b1];rfl,k1,by rw[bO,bA b1];rfl,?_⟩
 have P:=Upd.hnew No h1 [.int .u64 0,.int .u64 0,.int .u64 0,.int .u64 0] jq;have b2:=db h1 [.int .u64 0,.int .u64 0,.int .u64 0,.int .u64 0] jq;simp only[gf h1];simp only[Bd];refine bV ?_;refine⟨.inr ⟨_,rfl,fun j L=>by rw[bO];exact iv b2 (by simp at L⊢;omega)⟩,?_⟩
 refine bV ?_;rw[iG _ _ 0 0 _ b2 (by simp)];have b3:=jK (o:=.cells (q4 (dy k0 8317987319222330741,dy k1 7237128888997146477,dy k0 7816392313619706465,dy k1 8387220255154660723)) jq (0,0)) b2;have N:Upd No h _:=y.tr (P.trans (M':=(· =h1.size)) (Upd.set (hnew h1 [.int .u64 0,.int .u64 0,.int .u64 0,.int .u64 0] jq) (.cells (q4 (dy k0 8317987319222330741,dy k1 7237128888997146477,dy k0 7816392313619706465,dy k1 8387220255154660723)) jq (0,0)) rfl) fun b a=>.inr (Nat.le_of_eq a.symm))
 refine LoopP.ghost (fun(g:Nat×Q4) (d:ByteArray) u=>d.size≤g.1∧u[h1.size]? =some (.cells (q4 g.2) jq (0,0))∧Upd No h u∧Cs g.1 d g.2=Cs s.size s (dy k0 8317987319222330741,dy k1 7237128888997146477,dy k0 7816392313619706465,dy k1 8387220255154660723)) (fun g=>g.1) (s.size,_)
  ⟨Nat.le_refl _,b3,N,rfl⟩ ?_
 rintro I ⟨n,q⟩ d u ⟨H,a,G,v⟩ J;simp only at H a v;have p:∀b,b=h1.size→No b∨h.size≤b:=fun b a=>.inr (by omega)
 refine aQ (fun z=>?_) fun D=>?_
 ·have z:8≤d.size:=by omega
  cases n with
  |zero=>omega
  |succ n=>
   refine⟨by omega,NB (by rw[eE];show min 8 _-0≤8;omega) (NI a fun M f k=>⟨by omega,?_⟩)⟩
   have O:((8:Int)).toNat=8:=rfl;rw[O]at f⊢;refine J (n,qL (xZ (d.extract 0 8)) q) _ _ ⟨by simp only[eE];omega,f,G.trans k p,?_⟩ (by simp only;omega);rw[←v];simp only[Cs,if_pos z]
 ·have D:d.size<8:=by omega
  have v:(d,q)=Cs s.size s (dy k0 8317987319222330741,dy k1 7237128888997146477,dy k0 7816392313619706465,dy k1 8387220255154660723):=by
   rw[←v];cases n with
   |zero=>rfl
   |succ n=>simp only[Cs,if_neg (show ¬8≤d.size by omega)]
  have c:∀{h:ad} {s:Q4} {i:Nat},h[h1.size]? =some (.cells (q4 s) jq (0,0))→aR h ⟨h1.size,0+i,none⟩=(q4 s)[i]?:=fun a=>by rw[aL];exact bA a
  have w:∀{h:ad} {s:Q4} {i:Nat},h[h1.size]? =some (.cells (q4 s) jq (0,0))→i<4→Wr h ⟨h1.size,0+i,none⟩:=fun a hi=>by rw[aL];exact iv a hi
  have C:Lx k0 k1 s=TG (qL (Eu (xZ d) (TY (s.size:Int) 56)) q):=by unfold Lx;rw[←v];rfl
  rw[C]at F;refine NB (by omega) ⟨by decide,NI (m:=Eu (xZ d) (TY (s.size:Int) 56)) a fun M f k=>?_⟩
  refine TF f fun E B A=>TH (K:=fun n=>K n E) B ?_
  exact F E ((G.trans k p).trans A p)
structure Hs where
 k0:Int
 k1:Int
 mask:Int
def l9(h:Hs)(s:ByteArray):Int:=KP (Lx h.k0 h.k1 s) h.mask
theorem sA{x:Hs}{s:ByteArray}{h:ad}{K:Int→ad→Prop}(c:∀h',Upd No h h'→K (l9 x s) h'):HC PG eh [.agg #[.int .u64 x.k0,.int .u64 x.k1,.int .u64 x.mask],.string s] [.c (.int .u64)] K h:=by
 refine AE (x.k0,x.k1,x.mask) s ?_;unfold sV ah bS zT VG;have a:=Upd.hnew No h [.int .u64 x.k0,.int .u64 x.k1,.int .u64 x.mask] cH;have b1:=db h [.int .u64 x.k0,.int .u64 x.k1,.int .u64 x.mask] cH;simp only[At,gf h];generalize hnew h [.int .u64 x.k0,.int .u64 x.k1,.int .u64 x.mask] cH=h1 at a b1;refine⟨x.k0,by rw[bO,bO,bA b1];rfl,x.k1,by rw[bO,bO,bA b1];rfl,x.mask,by rw[bO,bA b1];rfl,?_⟩
 refine UB fun d b=>⟨by rw[bO,bA (b.get0 b1)];rfl,c _ (a.tr b)⟩
theorem CF(x:Hs)(s:ByteArray):0≤l9 x s∧l9 x s<18446744073709551616:=Bs _
end Go.Proofs
