/- A part of the proof that the named laws of this program answer true, whatever the input. -/
import Derived.Test.YtajpljopgikpgaaGreatDoorTreeF0
import Derived.Test.YtajpljopgikpgaaGreatDoorTreeF1
import Derived.Test.YtajpljopgikpgaaGreatDoorTreeF2
import Derived.Test.YtajpljopgikpgaaGreatDoorLaw0
import Derived.Conc.LoneSelect
import Derived.KernelRfl
import Derived.Laws.Rows
open BitVec renaming ofInt→ao
open ByteArray renaming size_extract→eK
open List renaming range→dV,mem_singleton→aq,mem_cons→aw
open Nat renaming zero_add→aI
open Option renaming getD_some→pS
namespace Go.Proofs
open Go.Lift
theorem Bi(n:Int):0≤IntKind.wrap .u64 n∧IntKind.wrap .u64 n<18446744073709551616:=by rw[IntKind.wrap_u64];omega
theorem ji{x:Int}(h: -4611686018427387904≤x∧x≤4611686018427387904):IntKind.wrap .i64 x=x:=Go.IntWalk.i64_in _ (by omega)
theorem cz{i n:Nat}(h:i<n)(a:n≤4611686018427387904):IntKind.wrap .i64 ((i:Int)+1)=((i+1:Nat):Int):=by rw[ji (by omega)];omega
theorem vB{h:ae}{b i:Nat}{c:Array Value}{t:TypeId}{v:Value}{k:ae→Prop}(a:h[b]? =some (.cells c t (0,0)))
  (d:∀h',h'[b]? =some (.cells (c.setIfInBounds i v) t (0,0))→Upd (· =b) h h'→k h'):At (hset h ⟨b,i,none⟩ v) k:=by
 refine d _ ?_ (Upd.hset _ _ rfl);rw[Ae a,jt a]
def KM(a b:Int):Int:=IntKind.wrap .u64 (ao (IntKind.bits .u64) a&&&ao (IntKind.bits .u64) b).toNat
def du(a b:Int):Int:=IntKind.wrap .u64 (ao (IntKind.bits .u64) a^^^ao (IntKind.bits .u64) b).toNat
def Ef(a b:Int):Int:=IntKind.wrap .u64 (ao (IntKind.bits .u64) a|||ao (IntKind.bits .u64) b).toNat
def D4(x n:Int):Int:=
 Ef (IntKind.wrap .u64 (x*2^(min (KM (IntKind.wrap .u64 n) 63).toNat (IntKind.bits .u64)))) (Int.fdiv x (2^(min (IntKind.wrap .u64 (64-KM (IntKind.wrap .u64 n) 63)).toNat (IntKind.bits .u64))))
theorem Bp{x n:Int}{h:ae}{K:Int→ae→Prop}(a:K (D4 x n) h):HC PG dh [.int .u64 x,.int .i64 n] [.c (.int .u64)] K h:=by
 refine uj x n ?_;unfold nu;exact⟨(Bi _).1,(Bi _).1,a⟩
abbrev Q4:=Int×Int×Int×Int
def q4(s:Q4):Array Value:= #[.int .u64 s.1,.int .u64 s.2.1,.int .u64 s.2.2.1,.int .u64 s.2.2.2]
def Ss(a b:Int):Int:=IntKind.wrap .u64 (a+b)
def SL(s:Q4):Q4:=(Ss s.1 s.2.1,s.2)
def Th(s:Q4):Q4:=(s.1,du (D4 s.2.1 13) s.1,s.2.2)
def Tg(s:Q4):Q4:=(D4 s.1 32,s.2)
def UO(s:Q4):Q4:=(s.1,s.2.1,Ss s.2.2.1 s.2.2.2,s.2.2.2)
def VH(s:Q4):Q4:=(s.1,s.2.1,s.2.2.1,du (D4 s.2.2.2 16) s.2.2.1)
def V0(s:Q4):Q4:=(Ss s.1 s.2.2.2,s.2)
def WD(s:Q4):Q4:=(s.1,s.2.1,s.2.2.1,du (D4 s.2.2.2 21) s.1)
def WQ(s:Q4):Q4:=(s.1,s.2.1,Ss s.2.2.1 s.2.1,s.2.2.2)
def s09(s:Q4):Q4:=(s.1,du (D4 s.2.1 17) s.2.2.1,s.2.2)
def s10(s:Q4):Q4:=(s.1,s.2.1,D4 s.2.2.1 32,s.2.2.2)
def kF(s:Q4):Q4:=s10 (s09 (WQ (WD (V0 (VH (UO (Tg (Th (SL s)))))))))
def oD:Nat→Q4→Q4
 |0,s=>s
 |n+1,s=>oD n (kF s)
theorem pG{h:ae}{b i:Nat}{t:TypeId}{s s':Q4}{v:Value}{k:ae→Prop}(f:h[b]? =some (.cells (q4 s) t (0,0))) (e:(q4 s).setIfInBounds i v=q4 s')
  (g:∀a,a[b]? =some (.cells (q4 s') t (0,0))→Upd (· =b) h a→k a):At (hset h ⟨b,i,none⟩ v) k:=
 vB f fun a c d=>g a (e▸c) d
theorem Gv{n:Nat}(hn:n≤100){h:ae}{b:Nat}{t:TypeId}{s:Q4}(z:h[b]? =some (.cells (q4 s) t (0,0))) {K:Unit→ae→Prop}
  (Q:∀u,u[b]? =some (.cells (q4 (oD n s)) t (0,0))→Upd (· =b) h u→K () u):HC PG iY [.pointer (some ⟨b,0,none⟩),.int .i64 n] [] K h:=by
 refine za _ _ ?_;unfold rW bR cQ cY mZ;refine LoopP.ghost (fun(g:Nat×Q4) (N:Int) u=>N=(g.1:Int)∧g.1≤n∧u[b]? =some (.cells (q4 g.2) t (0,0))∧Upd (· =b) h u∧oD (n-g.1) g.2=oD n s) (fun g=>n-g.1) (0,s) ⟨rfl,Nat.zero_le _,z,Upd.refl _ _,rfl⟩ ?_
 rintro I ⟨i,d⟩ N u ⟨O,hi,a,P,y⟩ R;simp only at O hi a y;subst O;refine aB (fun x=>?_) fun T=>?_
 ·have x:i<n:=by omega
  have c:∀{h:ae} {s:Q4} {i:Nat},h[b]? =some (.cells (q4 s) t (0,0))→aJ h ⟨b,0+i,none⟩=(q4 s)[i]?:=fun z=>by rw[aI];exact bl z
  have w:∀{h:ae} {s:Q4} {i:Nat},h[b]? =some (.cells (q4 s) t (0,0))→i<4→Wr h ⟨b,0+i,none⟩:=fun z hi=>by rw[aI];exact iX z hi
  simp only[show((0:Int)).toNat*1=0 from rfl,show((1:Int)).toNat*1=1 from rfl,show((2:Int)).toNat*1=2 from rfl,show((3:Int)).toNat*1=3 from rfl]
  refine⟨_,rfl,by decide,_,c (i:=0) a,_,rfl,by decide,_,c (i:=1) a,_,rfl,by decide,w (i:=0) a (by decide),pG (s':=SL d) a rfl fun h2 j M=>?_⟩
  refine⟨_,rfl,by decide,_,c (i:=1) j,_,rfl,by decide,_,c (i:=0) j,_,rfl,Bp ⟨c (i:=0) j,by decide,w (i:=1) j (by decide),pG (s':=Th (SL d)) j rfl fun W v H=>?_⟩⟩
  refine⟨_,rfl,by decide,_,c (i:=0) v,_,rfl,Bp ⟨by decide,w (i:=0) v (by decide),pG (s':=Tg (Th (SL d))) v rfl fun Z q D=>?_⟩⟩
  refine⟨_,rfl,by decide,_,c (i:=2) q,_,rfl,by decide,_,c (i:=3) q,_,rfl,by decide,w (i:=2) q (by decide),pG (s':=UO (Tg (Th (SL d)))) q rfl fun V k L=>?_⟩
  refine⟨_,rfl,by decide,_,c (i:=3) k,_,rfl,by decide,_,c (i:=2) k,_,rfl,Bp ⟨c (i:=2) k,by decide,w (i:=3) k (by decide),pG (s':=VH (UO (Tg (Th (SL d))))) k rfl fun h6 o G=>?_⟩⟩
  refine⟨_,rfl,by decide,_,c (i:=0) o,_,rfl,by decide,_,c (i:=3) o,_,rfl,by decide,w (i:=0) o (by decide),pG (s':=V0 (VH (UO (Tg (Th (SL d)))))) o rfl fun X m F=>?_⟩
  refine⟨_,rfl,by decide,_,c (i:=3) m,_,rfl,by decide,_,c (i:=0) m,_,rfl,Bp ⟨c (i:=0) m,by decide,w (i:=3) m (by decide),pG (s':=WD (V0 (VH (UO (Tg (Th (SL d))))))) m rfl fun h8 p E=>?_⟩⟩
  refine⟨_,rfl,by decide,_,c (i:=2) p,_,rfl,by decide,_,c (i:=1) p,_,rfl,by decide,w (i:=2) p (by decide),pG (s':=WQ (WD (V0 (VH (UO (Tg (Th (SL d)))))))) p rfl fun Y e J=>?_⟩
  refine⟨_,rfl,by decide,_,c (i:=1) e,_,rfl,by decide,_,c (i:=2) e,_,rfl,Bp ⟨c (i:=2) e,by decide,w (i:=1) e (by decide),pG (s':=s09 (WQ (WD (V0 (VH (UO (Tg (Th (SL d))))))))) e rfl fun U f A=>?_⟩⟩
  refine⟨_,rfl,by decide,_,c (i:=2) f,_,rfl,Bp ⟨by decide,w (i:=2) f (by decide),pG (s':=kF d) f rfl fun S C B=>?_⟩⟩
  rw[cz x (by omega)];refine R (i+1,kF d) _ _ ⟨rfl,x,C,P.tr (M.tr (H.tr (D.tr (L.tr (G.tr (F.tr (E.tr (J.tr (A.tr B))))))))),?_⟩ (by simp only;omega);simp only;rw[←y,show n-i=(n-(i+1))+1 by omega];rfl
 ·obtain rfl:i=n:=by omega
  rw[Nat.sub_self]at y;have y:d=oD i s:=y;rw[←y]at Q;exact Q _ a P
end Go.Proofs
namespace Go.Proofs
open Go Go.Lift Go.Conc Go.RowKit
theorem xy{w:World}{b i:Nat}{c:Array Value}{t:TypeId}{v:Value}(h:w.heap[b]? =some (.cells c t (0,0))) (hv:c[i]? =some v):w.cell? ⟨b,i,none⟩=some v:=by
 simp only[World.cell?,h];exact hv
theorem Pw{w:World}{b i:Nat}{c:Array Value}{t:TypeId}(h:w.heap[b]? =some (.cells c t (0,0))):w.frozen? ⟨b,i,none⟩=false:=by
 simp only[World.frozen?,h];simp
set_option maxRecDepth 100000 in
theorem OQ{w:World}{pb cb cap s r:Nat}{i:Int}{a:List Value}(d:w.heap[pb]? =some (.cells #[.chan (some cb)] 130 (0,0))) (hc:w.heap[cb]? =some (.chan cap (Value.int .i64 i::a).toArray false s r false)):
  Calls Tryz.prog 33 #[.pointer (some ⟨pb,0,none⟩)] w fun e w'=>e=.returned (.tuple #[.pointer (some ⟨w.heap.size,0,none⟩),.int .i64 0])∧w'=((w.setChan cb cap a.toArray false s (r+1) false).alloc (.cells #[.pointer (some ⟨pb,0,none⟩),.int .i64 i,.bool true] 140 (0,0))):=by
 refine calls_of_loneTo fun cs=>?_
 have e:Frame.enter Tryz.prog 33 #[.pointer (some ⟨pb,0,none⟩)] .normal=(base 33).at ⟨#[.pointer (some ⟨pb,0,none⟩),undef,undef,undef,undef,undef,undef,undef,undef,undef,undef,undef,undef,undef,undef,undef,undef,undef,undef],[]⟩ [.code (Tryz.f33.body.getD .skip)]:=by
  simp[Frame.enter,Frame.at,Tryz.func33,base,Tryz.f33]
 rw[e];have aJ:=xy d (i:=0) rfl;have b:(Value.int .i64 i::a).toArray.extract 1 (Value.int .i64 i::a).toArray.size=a.toArray:=by simp
 refine LoneTo.goes (n:=22) ?_;simp only[Tryz.f33,pS];s_c stepG_seq
 s_reg
 s_op
 s_op
 s_c stepG_region_end
 s_c stepG_seq
 s_c stepG_seq
 s_reg
 s_op
 s_op
 s_c stepG_region_end
 s_cond false
 s_c stepG_skip
 s_c stepG_seq
 s_reg
 s_op
 s_op
 s_op
 s_op
 s_c stepG_region_end
 s_c stepG_seq
 s_reg
 s_stop
 refine LoneTo.step (step_lone_select_recv_buf (c:=cb) (z:=.int .i64 0) (stepG_comm (cases:= #[rcase cb (.int .i64 0)]) (blocking:=false) (shape:=.select) (w':=w) rfl rfl (by decide) (by simp[go_sem,execOp,rcase,Act.eval])) hc (by simp)) ?_;rw[b];rw[Frame.finish_at];walk_nrm
 refine LoneTo.goes (n:=20) ?_;s_op
 s_op
 s_c stepG_region_end
 s_c stepG_block
 s_cond true
 s_c stepG_seq
 s_reg
 s_op
 s_op
 s_c stepG_region_end
 s_c stepG_seq
 s_reg
 s_op
 s_op
 s_op
 s_op
 s_op
 s_op
 s_c stepG_region_end
 s_c stepG_ret'
 s_stop
 refine LoneTo.done ⟨.returned (.tuple #[.pointer (some ⟨w.heap.size,0,none⟩),.int .i64 0]),_,rfl,⟨rfl,rfl⟩,rfl,rfl,rfl,rfl,_,Tryz.func33,by simp[results,Tryz.f33,Frame.at,size_setChan]⟩
theorem mkc(w:World)(n:Nat)(h:n≤4096):(Instr.makeChan 128 (.int .i64 n)).run Tryz.prog w=.ok (.chan (some w.heap.size)) (w.alloc (.chan n #[] false 0 0 false)):=by
 have a:Tryz.prog.underlying 128=some (.chan .both 3):=by kernel_rfl
 have b:(Tryz.prog.info? 3).map (·.bytes)=some 8:=by kernel_rfl
 obtain⟨i,hi,c⟩:=Option.map_eq_some_iff.1 b;exact run_makeChan (P:=Tryz.prog) (w:=w) a hi .i64 n (by omega) (by rw[c];omega)
noncomputable abbrev Df:Code:=match Tryz.f32.body with|some (.seq _ (.seq _ (.seq _ (.seq (.seq _ (.block _ (.loop c))) _))))=>c|_=>.skip
noncomputable abbrev H0:Code:=match Tryz.f32.body with|some (.seq _ (.seq _ (.seq _ (.seq _ c))))=>c|_=>.skip
set_option maxRecDepth 100000 in
set_option maxHeartbeats 4000000 in
theorem Q5{n pb cb:Nat}{Q:Goroutine→World→Prop}{cs:List Frame}(M:n≤4096)(A:pb≠cb):∀(m i:Nat) (v e q g o k d t f p:Value) (a:List Value) (s r:Nat) (w:World),i+m=n→a.length=i→w.heap[pb]? =some (.cells #[.chan (some cb)] 130 (0,0))→w.heap[cb]? =some (.chan n a.toArray false s r false)→
  (∀(v e q g o k d t f p:Value) (b:List Value) (s' y:Nat) (w':World),b=a++(dV m).map (fun j=>Value.int .i64 ((i+j:Nat)+1:Int))→(w'=w∨w'=w.setChan cb n b.toArray false s' y false)→w'.heap[cb]? =some (.chan n b.toArray false s' y false)→LoneTo Tryz.prog Q (G ((base 32).at ⟨#[.int .i64 n,undef,.pointer none,.int .i64 0,.pointer (some ⟨pb,0,none⟩),v,.int .i64 n,.bool false,.bool false,.int .i64 n,.bool false,.bool false,.int .i64 n,.chan (some cb),.agg #[.chan (some cb)],.pointer (some ⟨pb,0,none⟩),.int .i64 n,.int .i64 n,e,q,g,o,k,d,t,f,p,undef],[]⟩ [.code H0]) cs) w')→
  LoneTo Tryz.prog Q (G ((base 32).at ⟨#[.int .i64 n,undef,.pointer none,.int .i64 0,.pointer (some ⟨pb,0,none⟩),v,.int .i64 n,.bool false,.bool false,.int .i64 n,.bool false,.bool false,.int .i64 n,.chan (some cb),.agg #[.chan (some cb)],.pointer (some ⟨pb,0,none⟩),.int .i64 n,.int .i64 i,e,q,g,o,k,d,t,f,p,undef],[]⟩ [.code Df,.inLoop Df,.inBlock 0,.code H0]) cs) w:=by
 intro m;induction m with
 |zero=>
  intro i v e q g o k d t f p a s r w u D B hc C;have u:i=n:=by omega
  subst u;have E:¬((i:Int)<(i:Int)):=by omega
  refine LoneTo.goes (n:=9) ?_;simp only[Df,Tryz.f32];s_c stepG_seq
  s_reg
  s_op
  s_c stepG_region_end
  s_c stepG_seq
  s_cond false
  s_exit
  s_stop
  exact C _ _ _ _ _ _ _ _ _ _ a s r w (by simp) (.inl rfl) hc
 |succ m ih=>
  intro i v e q g o k d t f p a s r w u D B hc C;have E:((i:Int)<(n:Int)):=by omega
  have aJ:=xy B (i:=0) rfl;have K:IntKind.wrap .i64 ((i:Int)+1)=((i+1:Nat):Int):=by rw[ji (by omega)];omega
  refine LoneTo.goes (n:=21) ?_;simp only[Df,Tryz.f32];s_c stepG_seq
  s_reg
  s_op
  s_c stepG_region_end
  s_c stepG_seq
  s_cond true
  s_c stepG_skip
  s_c stepG_seq
  s_c stepG_block
  s_c stepG_seq
  s_reg
  s_op
  s_op
  s_c stepG_region_end
  s_reg
  s_op
  s_op
  s_op
  s_op
  s_op
  s_op
  s_stop
  refine LoneTo.step (step_lone_send_room (c:=cb) (cap:=n) (buf:=a.toArray) (s:=s) (r:=r) (tm:=false) (stepG_comm (cases:= #[scase cb (.int .i64 ((i:Int)+1)) (.tuple #[])]) (blocking:=true) (shape:=.send) (w':=w) rfl rfl (by decide) (by simp[execOp,scase,Act.eval])) hc (by simp[D];omega)) ?_;rw[Frame.finish_at];walk_nrm
  have hz:cb<w.heap.size:=(Array.getElem?_eq_some_iff.1 hc).1;refine LoneTo.goes (n:=7) ?_;s_c stepG_region_end
  s_c stepG_inBlock
  s_reg
  s_op
  s_op
  s_c stepG_region_end
  s_c stepG_inLoop
  s_stop
  have H:((i:Int)+1)=((i+1:Nat):Int):=by omega
  rw[H];refine ih (i+1) _ _ _ _ _ _ _ _ _ _ (a++ [Value.int .i64 ((i+1:Nat):Int)]) (s+1) r (w.setChan cb n (a++ [Value.int .i64 ((i+1:Nat):Int)]).toArray false (s+1) r false) (by omega) (by simp[D]) ?_ (heap_setChan _ _ _ _ _ _ _ _ hz) fun v e q g o k d t f p b s' y w' L x z=>C v e q g o k d t f p b s' y w' ?_ (.inr ?_) z
  ·simp only[World.setChan,Array.getElem?_setIfInBounds]
   rw[if_neg (Ne.symm A)];exact B
  ·rw[L,List.range_succ_eq_map]
   simp[Nat.add_comm,Nat.add_left_comm,Function.comp_def]
  ·rcases x with x|x
   ·subst x
    rw[heap_setChan _ _ _ _ _ _ _ _ hz]at z;simp only[Option.some.injEq,Obj.chan.injEq]at z;obtain⟨_,F,_,I,J,_⟩:=z;rw[F,I,J]
   ·rw[x];simp[World.setChan]
set_option maxRecDepth 100000 in
set_option maxHeartbeats 4000000 in
theorem Q3{n:Nat}{w:World}(z:1≤n)(b:n≤4096):Calls Tryz.prog 32 #[.int .i64 n] w fun e w'=>e=.returned (.tuple #[.pointer (some ⟨w.heap.size+1,0,none⟩),.int .i64 0])∧∃(a:List Value) (s r:Nat),a=(dV n).map (fun j=>Value.int .i64 ((0+j:Nat)+1:Int))∧w'.heap[w.heap.size]? =some (.chan n a.toArray false s r false)∧(w'=(w.alloc (.chan n #[] false 0 0 false)).alloc (.cells #[.chan (some w.heap.size)] 130 (0,0))∨w'=((w.alloc (.chan n #[] false 0 0 false)).alloc (.cells #[.chan (some w.heap.size)] 130 (0,0))).setChan w.heap.size n a.toArray false s r false):=by
 refine calls_of_loneTo fun cs=>?_
 have e:Frame.enter Tryz.prog 32 #[.int .i64 n] .normal=(base 32).at ⟨#[.int .i64 n,undef,undef,undef,undef,undef,undef,undef,undef,undef,undef,undef,undef,undef,undef,undef,undef,undef,undef,undef,undef,undef,undef,undef,undef,undef,undef,undef],[]⟩ [.code (Tryz.f32.body.getD .skip)]:=by
  simp[Frame.enter,Frame.at,Tryz.func32,base,Tryz.f32]
 rw[e];have t:=fun w=>mkc w n b
 have A:¬((n:Int)<1):=by omega
 have C:¬(4096<(n:Int)):=by omega
 refine LoneTo.goes (n:=33) ?_;simp only[Tryz.f32,pS];s_c stepG_seq
 s_reg
 s_op
 s_op
 s_c stepG_region_end
 s_c stepG_seq
 s_c stepG_seq
 s_reg
 s_op
 s_op
 s_op
 s_op
 s_op
 s_op
 s_c stepG_region_end
 s_cond false
 s_c stepG_skip
 s_c stepG_seq
 s_reg
 s_op
 s_op
 s_op
 s_op
 s_op
 s_c stepG_region_end
 s_c stepG_seq
 s_c stepG_seq
 s_reg
 s_op
 s_op
 s_c stepG_region_end
 s_c stepG_block
 s_c stepG_loop
 s_stop
 have m:((w.alloc (.chan n #[] false 0 0 false)).alloc (.cells #[.chan (some w.heap.size)] 130 (0,0))).heap[w.heap.size+1]? =some (.cells #[.chan (some w.heap.size)] 130 (0,0)):=by
  have:=heap_alloc_new (w.alloc (.chan n #[] false 0 0 false)) (.cells #[.chan (some w.heap.size)] 130 (0,0));simpa using this
 have o:((w.alloc (.chan n #[] false 0 0 false)).alloc (.cells #[.chan (some w.heap.size)] 130 (0,0))).heap[w.heap.size]? =some (.chan n #[] false 0 0 false):=by
  show((w.heap.push (.chan n #[] false 0 0 false)).push (.cells #[.chan (some w.heap.size)] 130 (0,0)))[w.heap.size]? =_
  simp[Array.getElem?_push]
 refine Q5 b (by omega) n 0 _ _ _ _ _ _ _ _ _ _ [] 0 0 _ (by omega) rfl m o fun B d u g k i c x f q a s r w' v p y=>?_
 refine LoneTo.goes (n:=7) ?_;simp only[H0,Tryz.f32];s_c stepG_seq
 s_reg
 s_op
 s_op
 s_op
 s_c stepG_region_end
 s_c stepG_ret'
 s_stop
 refine LoneTo.done ⟨.returned (.tuple #[.pointer (some ⟨w.heap.size+1,0,none⟩),.int .i64 0]),_,rfl,⟨rfl,a,s,r,by simpa[dV]using v,y,p⟩,rfl,rfl,rfl,rfl,_,Tryz.func32,by simp[results,Tryz.f32,Frame.at]⟩
theorem fX{md:Region.Mode}{ops:Array Oper}{fuel t:Nat}{listed:Array Bool}{rs:List Nat}(d:Region.ready md ops listed=rs)(b:rs≠[]):∃i∈rs,∃t',Region.linearise.go md ops (fuel+1) t listed []=i::Region.linearise.go md ops fuel t' (listed.setIfInBounds i true) []:=by
 subst d;simp only[Region.linearise.go];change∃i∈Region.ready md ops listed,∃t',(match(Region.ready md ops listed)[t%(Region.ready md ops listed).length]? with
  |some i=>Region.linearise.go md ops fuel (t/(Region.ready md ops listed).length) (listed.setIfInBounds i true) [i]
  |none=> [].reverse)=i::Region.linearise.go md ops fuel t' (listed.setIfInBounds i true) []
 have c:0<(Region.ready md ops listed).length:=List.length_pos_iff.2 b;have a:t%(Region.ready md ops listed).length<(Region.ready md ops listed).length:=Nat.mod_lt _ c;rw[List.getElem?_eq_getElem a];refine⟨_,List.getElem_mem a,t/(Region.ready md ops listed).length,?_⟩;simp only[];rw[linearise_go_acc];rfl
noncomputable abbrev aK:Array Oper:=match Tryz.f37.body with|some (.seq _ (.seq _ (.seq _ (.seq (.region _ o _) _))))=>o|_=> #[]
section
variable {pb tb cb:Nat} {id:Int} {u2 u3 u4 u5 u6 u7 u8 u9 u10 u11 u12 u13 u14 u15 u16 u17 u18 u19 u20 u21 u22:Value} {Q:Goroutine→World→Prop} {cs:List Frame} {kk:List Item} {w:World}
set_option maxRecDepth 100000
theorem RD(d:w.cell? ⟨pb,0,none⟩=some (.chan (some cb)))(c:w.cell? ⟨tb,1,none⟩=some (.int .i64 id))(b:∀t,LoneTo Tryz.prog Q (G ((base 37).at ⟨#[.pointer (some ⟨pb,0,none⟩),.pointer (some ⟨tb,0,none⟩),u2,u3,u4,u5,u6,u7,u8,u9,u10,u11,u12,u13,u14,u15,u16,u17,u18,u19,u20,u21,u22,.pointer (some ⟨pb,0,none⟩),.pointer (some ⟨pb,0,none⟩),.pointer (some ⟨pb,0,none⟩),.chan (some cb),.pointer (some ⟨tb,0,none⟩),.pointer (some ⟨tb,0,none⟩),.pointer (some ⟨tb,1,none⟩),.int .i64 id],[]⟩ (.inRegion aK (Region.linearise.go .any aK 1 t #[true,true,true,true,true,true,true,true,false] [])::kk)) cs) w)(t:Nat):LoneTo Tryz.prog Q (G ((base 37).at ⟨#[.pointer (some ⟨pb,0,none⟩),.pointer (some ⟨tb,0,none⟩),u2,u3,u4,u5,u6,u7,u8,u9,u10,u11,u12,u13,u14,u15,u16,u17,u18,u19,u20,u21,u22,.pointer (some ⟨pb,0,none⟩),.pointer (some ⟨pb,0,none⟩),.pointer (some ⟨pb,0,none⟩),.chan (some cb),.pointer (some ⟨tb,0,none⟩),.pointer (some ⟨tb,0,none⟩),.pointer (some ⟨tb,1,none⟩),undef],[]⟩ (.inRegion aK (Region.linearise.go .any aK 2 t #[true,true,true,true,true,true,true,false,false] [])::kk)) cs) w:=by
 obtain⟨i,hi,a,e⟩:=fX (md:=.any) (ops:=aK) (fuel:=1) (t:=t) (listed:= #[true,true,true,true,true,true,true,false,false]) (rs:= [7]) (by kernel_rfl) (by simp);rw[e];rw[aq.1 hi];refine LoneTo.goes (n:=1) ?_;simp only[aK,Tryz.f37];s_op
 s_stop
 exact b a
theorem RG(d:w.cell? ⟨pb,0,none⟩=some (.chan (some cb)))(c:w.cell? ⟨tb,1,none⟩=some (.int .i64 id))(b:∀t,LoneTo Tryz.prog Q (G ((base 37).at ⟨#[.pointer (some ⟨pb,0,none⟩),.pointer (some ⟨tb,0,none⟩),u2,u3,u4,u5,u6,u7,u8,u9,u10,u11,u12,u13,u14,u15,u16,u17,u18,u19,u20,u21,u22,.pointer (some ⟨pb,0,none⟩),.pointer (some ⟨pb,0,none⟩),.pointer (some ⟨pb,0,none⟩),.chan (some cb),.pointer (some ⟨tb,0,none⟩),.pointer (some ⟨tb,0,none⟩),.pointer (some ⟨tb,1,none⟩),.int .i64 id],[]⟩ (.inRegion aK (Region.linearise.go .any aK 1 t #[true,true,true,true,true,true,true,true,false] [])::kk)) cs) w)(t:Nat):LoneTo Tryz.prog Q (G ((base 37).at ⟨#[.pointer (some ⟨pb,0,none⟩),.pointer (some ⟨tb,0,none⟩),u2,u3,u4,u5,u6,u7,u8,u9,u10,u11,u12,u13,u14,u15,u16,u17,u18,u19,u20,u21,u22,.pointer (some ⟨pb,0,none⟩),.pointer (some ⟨pb,0,none⟩),.pointer (some ⟨pb,0,none⟩),undef,.pointer (some ⟨tb,0,none⟩),.pointer (some ⟨tb,0,none⟩),.pointer (some ⟨tb,1,none⟩),.int .i64 id],[]⟩ (.inRegion aK (Region.linearise.go .any aK 2 t #[true,true,true,false,true,true,true,true,false] [])::kk)) cs) w:=by
 obtain⟨i,hi,a,e⟩:=fX (md:=.any) (ops:=aK) (fuel:=1) (t:=t) (listed:= #[true,true,true,false,true,true,true,true,false]) (rs:= [3]) (by kernel_rfl) (by simp);rw[e];rw[aq.1 hi];refine LoneTo.goes (n:=1) ?_;simp only[aK,Tryz.f37];s_op
 s_stop
 exact b a
theorem RE(d:w.cell? ⟨pb,0,none⟩=some (.chan (some cb)))(a:w.cell? ⟨tb,1,none⟩=some (.int .i64 id))(c:∀t,LoneTo Tryz.prog Q (G ((base 37).at ⟨#[.pointer (some ⟨pb,0,none⟩),.pointer (some ⟨tb,0,none⟩),u2,u3,u4,u5,u6,u7,u8,u9,u10,u11,u12,u13,u14,u15,u16,u17,u18,u19,u20,u21,u22,.pointer (some ⟨pb,0,none⟩),.pointer (some ⟨pb,0,none⟩),.pointer (some ⟨pb,0,none⟩),.chan (some cb),.pointer (some ⟨tb,0,none⟩),.pointer (some ⟨tb,0,none⟩),.pointer (some ⟨tb,1,none⟩),.int .i64 id],[]⟩ (.inRegion aK (Region.linearise.go .any aK 1 t #[true,true,true,true,true,true,true,true,false] [])::kk)) cs) w)(t:Nat):LoneTo Tryz.prog Q (G ((base 37).at ⟨#[.pointer (some ⟨pb,0,none⟩),.pointer (some ⟨tb,0,none⟩),u2,u3,u4,u5,u6,u7,u8,u9,u10,u11,u12,u13,u14,u15,u16,u17,u18,u19,u20,u21,u22,.pointer (some ⟨pb,0,none⟩),.pointer (some ⟨pb,0,none⟩),.pointer (some ⟨pb,0,none⟩),.chan (some cb),.pointer (some ⟨tb,0,none⟩),.pointer (some ⟨tb,0,none⟩),undef,undef],[]⟩ (.inRegion aK (Region.linearise.go .any aK 3 t #[true,true,true,true,true,true,false,false,false] [])::kk)) cs) w:=by
 obtain⟨i,hi,b,e⟩:=fX (md:=.any) (ops:=aK) (fuel:=2) (t:=t) (listed:= #[true,true,true,true,true,true,false,false,false]) (rs:= [6]) (by kernel_rfl) (by simp);rw[e];rw[aq.1 hi];refine LoneTo.goes (n:=1) ?_;simp only[aK,Tryz.f37];s_op
 s_stop
 exact RD d a c b
theorem RH(d:w.cell? ⟨pb,0,none⟩=some (.chan (some cb)))(a:w.cell? ⟨tb,1,none⟩=some (.int .i64 id))(c:∀t,LoneTo Tryz.prog Q (G ((base 37).at ⟨#[.pointer (some ⟨pb,0,none⟩),.pointer (some ⟨tb,0,none⟩),u2,u3,u4,u5,u6,u7,u8,u9,u10,u11,u12,u13,u14,u15,u16,u17,u18,u19,u20,u21,u22,.pointer (some ⟨pb,0,none⟩),.pointer (some ⟨pb,0,none⟩),.pointer (some ⟨pb,0,none⟩),.chan (some cb),.pointer (some ⟨tb,0,none⟩),.pointer (some ⟨tb,0,none⟩),.pointer (some ⟨tb,1,none⟩),.int .i64 id],[]⟩ (.inRegion aK (Region.linearise.go .any aK 1 t #[true,true,true,true,true,true,true,true,false] [])::kk)) cs) w)(t:Nat):LoneTo Tryz.prog Q (G ((base 37).at ⟨#[.pointer (some ⟨pb,0,none⟩),.pointer (some ⟨tb,0,none⟩),u2,u3,u4,u5,u6,u7,u8,u9,u10,u11,u12,u13,u14,u15,u16,u17,u18,u19,u20,u21,u22,.pointer (some ⟨pb,0,none⟩),.pointer (some ⟨pb,0,none⟩),.pointer (some ⟨pb,0,none⟩),undef,.pointer (some ⟨tb,0,none⟩),.pointer (some ⟨tb,0,none⟩),.pointer (some ⟨tb,1,none⟩),undef],[]⟩ (.inRegion aK (Region.linearise.go .any aK 3 t #[true,true,true,false,true,true,true,false,false] [])::kk)) cs) w:=by
 obtain⟨i,hi,b,e⟩:=fX (md:=.any) (ops:=aK) (fuel:=2) (t:=t) (listed:= #[true,true,true,false,true,true,true,false,false]) (rs:= [3,7]) (by kernel_rfl) (by simp);rw[e];rcases aw.1 hi with rfl|hi
 ·skip
  refine LoneTo.goes (n:=1) ?_;simp only[aK,Tryz.f37];s_op
  s_stop
  exact RD d a c b
 ·rw[aq.1 hi]
  refine LoneTo.goes (n:=1) ?_;simp only[aK,Tryz.f37];s_op
  s_stop
  exact RG d a c b
theorem RL(d:w.cell? ⟨pb,0,none⟩=some (.chan (some cb)))(a:w.cell? ⟨tb,1,none⟩=some (.int .i64 id))(c:∀t,LoneTo Tryz.prog Q (G ((base 37).at ⟨#[.pointer (some ⟨pb,0,none⟩),.pointer (some ⟨tb,0,none⟩),u2,u3,u4,u5,u6,u7,u8,u9,u10,u11,u12,u13,u14,u15,u16,u17,u18,u19,u20,u21,u22,.pointer (some ⟨pb,0,none⟩),.pointer (some ⟨pb,0,none⟩),.pointer (some ⟨pb,0,none⟩),.chan (some cb),.pointer (some ⟨tb,0,none⟩),.pointer (some ⟨tb,0,none⟩),.pointer (some ⟨tb,1,none⟩),.int .i64 id],[]⟩ (.inRegion aK (Region.linearise.go .any aK 1 t #[true,true,true,true,true,true,true,true,false] [])::kk)) cs) w)(t:Nat):LoneTo Tryz.prog Q (G ((base 37).at ⟨#[.pointer (some ⟨pb,0,none⟩),.pointer (some ⟨tb,0,none⟩),u2,u3,u4,u5,u6,u7,u8,u9,u10,u11,u12,u13,u14,u15,u16,u17,u18,u19,u20,u21,u22,.pointer (some ⟨pb,0,none⟩),.pointer (some ⟨pb,0,none⟩),undef,undef,.pointer (some ⟨tb,0,none⟩),.pointer (some ⟨tb,0,none⟩),.pointer (some ⟨tb,1,none⟩),.int .i64 id],[]⟩ (.inRegion aK (Region.linearise.go .any aK 3 t #[true,true,false,false,true,true,true,true,false] [])::kk)) cs) w:=by
 obtain⟨i,hi,b,e⟩:=fX (md:=.any) (ops:=aK) (fuel:=2) (t:=t) (listed:= #[true,true,false,false,true,true,true,true,false]) (rs:= [2]) (by kernel_rfl) (by simp);rw[e];rw[aq.1 hi];refine LoneTo.goes (n:=1) ?_;simp only[aK,Tryz.f37];s_op
 s_stop
 exact RG d a c b
theorem RF(d:w.cell? ⟨pb,0,none⟩=some (.chan (some cb)))(a:w.cell? ⟨tb,1,none⟩=some (.int .i64 id))(c:∀t,LoneTo Tryz.prog Q (G ((base 37).at ⟨#[.pointer (some ⟨pb,0,none⟩),.pointer (some ⟨tb,0,none⟩),u2,u3,u4,u5,u6,u7,u8,u9,u10,u11,u12,u13,u14,u15,u16,u17,u18,u19,u20,u21,u22,.pointer (some ⟨pb,0,none⟩),.pointer (some ⟨pb,0,none⟩),.pointer (some ⟨pb,0,none⟩),.chan (some cb),.pointer (some ⟨tb,0,none⟩),.pointer (some ⟨tb,0,none⟩),.pointer (some ⟨tb,1,none⟩),.int .i64 id],[]⟩ (.inRegion aK (Region.linearise.go .any aK 1 t #[true,true,true,true,true,true,true,true,false] [])::kk)) cs) w)(t:Nat):LoneTo Tryz.prog Q (G ((base 37).at ⟨#[.pointer (some ⟨pb,0,none⟩),.pointer (some ⟨tb,0,none⟩),u2,u3,u4,u5,u6,u7,u8,u9,u10,u11,u12,u13,u14,u15,u16,u17,u18,u19,u20,u21,u22,.pointer (some ⟨pb,0,none⟩),.pointer (some ⟨pb,0,none⟩),.pointer (some ⟨pb,0,none⟩),.chan (some cb),.pointer (some ⟨tb,0,none⟩),undef,undef,undef],[]⟩ (.inRegion aK (Region.linearise.go .any aK 4 t #[true,true,true,true,true,false,false,false,false] [])::kk)) cs) w:=by
 obtain⟨i,hi,b,e⟩:=fX (md:=.any) (ops:=aK) (fuel:=3) (t:=t) (listed:= #[true,true,true,true,true,false,false,false,false]) (rs:= [5]) (by kernel_rfl) (by simp);rw[e];rw[aq.1 hi];refine LoneTo.goes (n:=1) ?_;simp only[aK,Tryz.f37];s_op
 s_stop
 exact RE d a c b
theorem RI(d:w.cell? ⟨pb,0,none⟩=some (.chan (some cb)))(a:w.cell? ⟨tb,1,none⟩=some (.int .i64 id))(c:∀t,LoneTo Tryz.prog Q (G ((base 37).at ⟨#[.pointer (some ⟨pb,0,none⟩),.pointer (some ⟨tb,0,none⟩),u2,u3,u4,u5,u6,u7,u8,u9,u10,u11,u12,u13,u14,u15,u16,u17,u18,u19,u20,u21,u22,.pointer (some ⟨pb,0,none⟩),.pointer (some ⟨pb,0,none⟩),.pointer (some ⟨pb,0,none⟩),.chan (some cb),.pointer (some ⟨tb,0,none⟩),.pointer (some ⟨tb,0,none⟩),.pointer (some ⟨tb,1,none⟩),.int .i64 id],[]⟩ (.inRegion aK (Region.linearise.go .any aK 1 t #[true,true,true,true,true,true,true,true,false] [])::kk)) cs) w)(t:Nat):LoneTo Tryz.prog Q (G ((base 37).at ⟨#[.pointer (some ⟨pb,0,none⟩),.pointer (some ⟨tb,0,none⟩),u2,u3,u4,u5,u6,u7,u8,u9,u10,u11,u12,u13,u14,u15,u16,u17,u18,u19,u20,u21,u22,.pointer (some ⟨pb,0,none⟩),.pointer (some ⟨pb,0,none⟩),.pointer (some ⟨pb,0,none⟩),undef,.pointer (some ⟨tb,0,none⟩),.pointer (some ⟨tb,0,none⟩),undef,undef],[]⟩ (.inRegion aK (Region.linearise.go .any aK 4 t #[true,true,true,false,true,true,false,false,false] [])::kk)) cs) w:=by
 obtain⟨i,hi,b,e⟩:=fX (md:=.any) (ops:=aK) (fuel:=3) (t:=t) (listed:= #[true,true,true,false,true,true,false,false,false]) (rs:= [3,6]) (by kernel_rfl) (by simp);rw[e];rcases aw.1 hi with rfl|hi
 ·skip
  refine LoneTo.goes (n:=1) ?_;simp only[aK,Tryz.f37];s_op
  s_stop
  exact RE d a c b
 ·rw[aq.1 hi]
  refine LoneTo.goes (n:=1) ?_;simp only[aK,Tryz.f37];s_op
  s_stop
  exact RH d a c b
theorem RM(d:w.cell? ⟨pb,0,none⟩=some (.chan (some cb)))(a:w.cell? ⟨tb,1,none⟩=some (.int .i64 id))(c:∀t,LoneTo Tryz.prog Q (G ((base 37).at ⟨#[.pointer (some ⟨pb,0,none⟩),.pointer (some ⟨tb,0,none⟩),u2,u3,u4,u5,u6,u7,u8,u9,u10,u11,u12,u13,u14,u15,u16,u17,u18,u19,u20,u21,u22,.pointer (some ⟨pb,0,none⟩),.pointer (some ⟨pb,0,none⟩),.pointer (some ⟨pb,0,none⟩),.chan (some cb),.pointer (some ⟨tb,0,none⟩),.pointer (some ⟨tb,0,none⟩),.pointer (some ⟨tb,1,none⟩),.int .i64 id],[]⟩ (.inRegion aK (Region.linearise.go .any aK 1 t #[true,true,true,true,true,true,true,true,false] [])::kk)) cs) w)(t:Nat):LoneTo Tryz.prog Q (G ((base 37).at ⟨#[.pointer (some ⟨pb,0,none⟩),.pointer (some ⟨tb,0,none⟩),u2,u3,u4,u5,u6,u7,u8,u9,u10,u11,u12,u13,u14,u15,u16,u17,u18,u19,u20,u21,u22,.pointer (some ⟨pb,0,none⟩),.pointer (some ⟨pb,0,none⟩),undef,undef,.pointer (some ⟨tb,0,none⟩),.pointer (some ⟨tb,0,none⟩),.pointer (some ⟨tb,1,none⟩),undef],[]⟩ (.inRegion aK (Region.linearise.go .any aK 4 t #[true,true,false,false,true,true,true,false,false] [])::kk)) cs) w:=by
 obtain⟨i,hi,b,e⟩:=fX (md:=.any) (ops:=aK) (fuel:=3) (t:=t) (listed:= #[true,true,false,false,true,true,true,false,false]) (rs:= [2,7]) (by kernel_rfl) (by simp);rw[e];rcases aw.1 hi with rfl|hi
 ·skip
  refine LoneTo.goes (n:=1) ?_;simp only[aK,Tryz.f37];s_op
  s_stop
  exact RH d a c b
 ·rw[aq.1 hi]
  refine LoneTo.goes (n:=1) ?_;simp only[aK,Tryz.f37];s_op
  s_stop
  exact RL d a c b
theorem RP(d:w.cell? ⟨pb,0,none⟩=some (.chan (some cb)))(a:w.cell? ⟨tb,1,none⟩=some (.int .i64 id))(c:∀t,LoneTo Tryz.prog Q (G ((base 37).at ⟨#[.pointer (some ⟨pb,0,none⟩),.pointer (some ⟨tb,0,none⟩),u2,u3,u4,u5,u6,u7,u8,u9,u10,u11,u12,u13,u14,u15,u16,u17,u18,u19,u20,u21,u22,.pointer (some ⟨pb,0,none⟩),.pointer (some ⟨pb,0,none⟩),.pointer (some ⟨pb,0,none⟩),.chan (some cb),.pointer (some ⟨tb,0,none⟩),.pointer (some ⟨tb,0,none⟩),.pointer (some ⟨tb,1,none⟩),.int .i64 id],[]⟩ (.inRegion aK (Region.linearise.go .any aK 1 t #[true,true,true,true,true,true,true,true,false] [])::kk)) cs) w)(t:Nat):LoneTo Tryz.prog Q (G ((base 37).at ⟨#[.pointer (some ⟨pb,0,none⟩),.pointer (some ⟨tb,0,none⟩),u2,u3,u4,u5,u6,u7,u8,u9,u10,u11,u12,u13,u14,u15,u16,u17,u18,u19,u20,u21,u22,.pointer (some ⟨pb,0,none⟩),undef,undef,undef,.pointer (some ⟨tb,0,none⟩),.pointer (some ⟨tb,0,none⟩),.pointer (some ⟨tb,1,none⟩),.int .i64 id],[]⟩ (.inRegion aK (Region.linearise.go .any aK 4 t #[true,false,false,false,true,true,true,true,false] [])::kk)) cs) w:=by
 obtain⟨i,hi,b,e⟩:=fX (md:=.any) (ops:=aK) (fuel:=3) (t:=t) (listed:= #[true,false,false,false,true,true,true,true,false]) (rs:= [1]) (by kernel_rfl) (by simp);rw[e];rw[aq.1 hi];refine LoneTo.goes (n:=1) ?_;simp only[aK,Tryz.f37];s_op
 s_stop
 exact RL d a c b
theorem Vg(d:w.cell? ⟨pb,0,none⟩=some (.chan (some cb)))(a:w.cell? ⟨tb,1,none⟩=some (.int .i64 id))(c:∀t,LoneTo Tryz.prog Q (G ((base 37).at ⟨#[.pointer (some ⟨pb,0,none⟩),.pointer (some ⟨tb,0,none⟩),u2,u3,u4,u5,u6,u7,u8,u9,u10,u11,u12,u13,u14,u15,u16,u17,u18,u19,u20,u21,u22,.pointer (some ⟨pb,0,none⟩),.pointer (some ⟨pb,0,none⟩),.pointer (some ⟨pb,0,none⟩),.chan (some cb),.pointer (some ⟨tb,0,none⟩),.pointer (some ⟨tb,0,none⟩),.pointer (some ⟨tb,1,none⟩),.int .i64 id],[]⟩ (.inRegion aK (Region.linearise.go .any aK 1 t #[true,true,true,true,true,true,true,true,false] [])::kk)) cs) w)(t:Nat):LoneTo Tryz.prog Q (G ((base 37).at ⟨#[.pointer (some ⟨pb,0,none⟩),.pointer (some ⟨tb,0,none⟩),u2,u3,u4,u5,u6,u7,u8,u9,u10,u11,u12,u13,u14,u15,u16,u17,u18,u19,u20,u21,u22,.pointer (some ⟨pb,0,none⟩),.pointer (some ⟨pb,0,none⟩),.pointer (some ⟨pb,0,none⟩),.chan (some cb),undef,undef,undef,undef],[]⟩ (.inRegion aK (Region.linearise.go .any aK 5 t #[true,true,true,true,false,false,false,false,false] [])::kk)) cs) w:=by
 obtain⟨i,hi,b,e⟩:=fX (md:=.any) (ops:=aK) (fuel:=4) (t:=t) (listed:= #[true,true,true,true,false,false,false,false,false]) (rs:= [4]) (by kernel_rfl) (by simp);rw[e];rw[aq.1 hi];refine LoneTo.goes (n:=1) ?_;simp only[aK,Tryz.f37];s_op
 s_stop
 exact RF d a c b
theorem RJ(d:w.cell? ⟨pb,0,none⟩=some (.chan (some cb)))(a:w.cell? ⟨tb,1,none⟩=some (.int .i64 id))(c:∀t,LoneTo Tryz.prog Q (G ((base 37).at ⟨#[.pointer (some ⟨pb,0,none⟩),.pointer (some ⟨tb,0,none⟩),u2,u3,u4,u5,u6,u7,u8,u9,u10,u11,u12,u13,u14,u15,u16,u17,u18,u19,u20,u21,u22,.pointer (some ⟨pb,0,none⟩),.pointer (some ⟨pb,0,none⟩),.pointer (some ⟨pb,0,none⟩),.chan (some cb),.pointer (some ⟨tb,0,none⟩),.pointer (some ⟨tb,0,none⟩),.pointer (some ⟨tb,1,none⟩),.int .i64 id],[]⟩ (.inRegion aK (Region.linearise.go .any aK 1 t #[true,true,true,true,true,true,true,true,false] [])::kk)) cs) w)(t:Nat):LoneTo Tryz.prog Q (G ((base 37).at ⟨#[.pointer (some ⟨pb,0,none⟩),.pointer (some ⟨tb,0,none⟩),u2,u3,u4,u5,u6,u7,u8,u9,u10,u11,u12,u13,u14,u15,u16,u17,u18,u19,u20,u21,u22,.pointer (some ⟨pb,0,none⟩),.pointer (some ⟨pb,0,none⟩),.pointer (some ⟨pb,0,none⟩),undef,.pointer (some ⟨tb,0,none⟩),undef,undef,undef],[]⟩ (.inRegion aK (Region.linearise.go .any aK 5 t #[true,true,true,false,true,false,false,false,false] [])::kk)) cs) w:=by
 obtain⟨i,hi,b,e⟩:=fX (md:=.any) (ops:=aK) (fuel:=4) (t:=t) (listed:= #[true,true,true,false,true,false,false,false,false]) (rs:= [3,5]) (by kernel_rfl) (by simp);rw[e];rcases aw.1 hi with rfl|hi
 ·skip
  refine LoneTo.goes (n:=1) ?_;simp only[aK,Tryz.f37];s_op
  s_stop
  exact RF d a c b
 ·rw[aq.1 hi]
  refine LoneTo.goes (n:=1) ?_;simp only[aK,Tryz.f37];s_op
  s_stop
  exact RI d a c b
theorem RN(d:w.cell? ⟨pb,0,none⟩=some (.chan (some cb)))(a:w.cell? ⟨tb,1,none⟩=some (.int .i64 id))(c:∀t,LoneTo Tryz.prog Q (G ((base 37).at ⟨#[.pointer (some ⟨pb,0,none⟩),.pointer (some ⟨tb,0,none⟩),u2,u3,u4,u5,u6,u7,u8,u9,u10,u11,u12,u13,u14,u15,u16,u17,u18,u19,u20,u21,u22,.pointer (some ⟨pb,0,none⟩),.pointer (some ⟨pb,0,none⟩),.pointer (some ⟨pb,0,none⟩),.chan (some cb),.pointer (some ⟨tb,0,none⟩),.pointer (some ⟨tb,0,none⟩),.pointer (some ⟨tb,1,none⟩),.int .i64 id],[]⟩ (.inRegion aK (Region.linearise.go .any aK 1 t #[true,true,true,true,true,true,true,true,false] [])::kk)) cs) w)(t:Nat):LoneTo Tryz.prog Q (G ((base 37).at ⟨#[.pointer (some ⟨pb,0,none⟩),.pointer (some ⟨tb,0,none⟩),u2,u3,u4,u5,u6,u7,u8,u9,u10,u11,u12,u13,u14,u15,u16,u17,u18,u19,u20,u21,u22,.pointer (some ⟨pb,0,none⟩),.pointer (some ⟨pb,0,none⟩),undef,undef,.pointer (some ⟨tb,0,none⟩),.pointer (some ⟨tb,0,none⟩),undef,undef],[]⟩ (.inRegion aK (Region.linearise.go .any aK 5 t #[true,true,false,false,true,true,false,false,false] [])::kk)) cs) w:=by
 obtain⟨i,hi,b,e⟩:=fX (md:=.any) (ops:=aK) (fuel:=4) (t:=t) (listed:= #[true,true,false,false,true,true,false,false,false]) (rs:= [2,6]) (by kernel_rfl) (by simp);rw[e];rcases aw.1 hi with rfl|hi
 ·skip
  refine LoneTo.goes (n:=1) ?_;simp only[aK,Tryz.f37];s_op
  s_stop
  exact RI d a c b
 ·rw[aq.1 hi]
  refine LoneTo.goes (n:=1) ?_;simp only[aK,Tryz.f37];s_op
  s_stop
  exact RM d a c b
theorem RQ(d:w.cell? ⟨pb,0,none⟩=some (.chan (some cb)))(a:w.cell? ⟨tb,1,none⟩=some (.int .i64 id))(c:∀t,LoneTo Tryz.prog Q (G ((base 37).at ⟨#[.pointer (some ⟨pb,0,none⟩),.pointer (some ⟨tb,0,none⟩),u2,u3,u4,u5,u6,u7,u8,u9,u10,u11,u12,u13,u14,u15,u16,u17,u18,u19,u20,u21,u22,.pointer (some ⟨pb,0,none⟩),.pointer (some ⟨pb,0,none⟩),.pointer (some ⟨pb,0,none⟩),.chan (some cb),.pointer (some ⟨tb,0,none⟩),.pointer (some ⟨tb,0,none⟩),.pointer (some ⟨tb,1,none⟩),.int .i64 id],[]⟩ (.inRegion aK (Region.linearise.go .any aK 1 t #[true,true,true,true,true,true,true,true,false] [])::kk)) cs) w)(t:Nat):LoneTo Tryz.prog Q (G ((base 37).at ⟨#[.pointer (some ⟨pb,0,none⟩),.pointer (some ⟨tb,0,none⟩),u2,u3,u4,u5,u6,u7,u8,u9,u10,u11,u12,u13,u14,u15,u16,u17,u18,u19,u20,u21,u22,.pointer (some ⟨pb,0,none⟩),undef,undef,undef,.pointer (some ⟨tb,0,none⟩),.pointer (some ⟨tb,0,none⟩),.pointer (some ⟨tb,1,none⟩),undef],[]⟩ (.inRegion aK (Region.linearise.go .any aK 5 t #[true,false,false,false,true,true,true,false,false] [])::kk)) cs) w:=by
 obtain⟨i,hi,b,e⟩:=fX (md:=.any) (ops:=aK) (fuel:=4) (t:=t) (listed:= #[true,false,false,false,true,true,true,false,false]) (rs:= [1,7]) (by kernel_rfl) (by simp);rw[e];rcases aw.1 hi with rfl|hi
 ·skip
  refine LoneTo.goes (n:=1) ?_;simp only[aK,Tryz.f37];s_op
  s_stop
  exact RM d a c b
 ·rw[aq.1 hi]
  refine LoneTo.goes (n:=1) ?_;simp only[aK,Tryz.f37];s_op
  s_stop
  exact RP d a c b
theorem Vk(d:w.cell? ⟨pb,0,none⟩=some (.chan (some cb)))(a:w.cell? ⟨tb,1,none⟩=some (.int .i64 id))(c:∀t,LoneTo Tryz.prog Q (G ((base 37).at ⟨#[.pointer (some ⟨pb,0,none⟩),.pointer (some ⟨tb,0,none⟩),u2,u3,u4,u5,u6,u7,u8,u9,u10,u11,u12,u13,u14,u15,u16,u17,u18,u19,u20,u21,u22,.pointer (some ⟨pb,0,none⟩),.pointer (some ⟨pb,0,none⟩),.pointer (some ⟨pb,0,none⟩),.chan (some cb),.pointer (some ⟨tb,0,none⟩),.pointer (some ⟨tb,0,none⟩),.pointer (some ⟨tb,1,none⟩),.int .i64 id],[]⟩ (.inRegion aK (Region.linearise.go .any aK 1 t #[true,true,true,true,true,true,true,true,false] [])::kk)) cs) w)(t:Nat):LoneTo Tryz.prog Q (G ((base 37).at ⟨#[.pointer (some ⟨pb,0,none⟩),.pointer (some ⟨tb,0,none⟩),u2,u3,u4,u5,u6,u7,u8,u9,u10,u11,u12,u13,u14,u15,u16,u17,u18,u19,u20,u21,u22,undef,undef,undef,undef,.pointer (some ⟨tb,0,none⟩),.pointer (some ⟨tb,0,none⟩),.pointer (some ⟨tb,1,none⟩),.int .i64 id],[]⟩ (.inRegion aK (Region.linearise.go .any aK 5 t #[false,false,false,false,true,true,true,true,false] [])::kk)) cs) w:=by
 obtain⟨i,hi,b,e⟩:=fX (md:=.any) (ops:=aK) (fuel:=4) (t:=t) (listed:= #[false,false,false,false,true,true,true,true,false]) (rs:= [0]) (by kernel_rfl) (by simp);rw[e];rw[aq.1 hi];refine LoneTo.goes (n:=1) ?_;simp only[aK,Tryz.f37];s_op
 s_stop
 exact RP d a c b
theorem Vh(d:w.cell? ⟨pb,0,none⟩=some (.chan (some cb)))(a:w.cell? ⟨tb,1,none⟩=some (.int .i64 id))(c:∀t,LoneTo Tryz.prog Q (G ((base 37).at ⟨#[.pointer (some ⟨pb,0,none⟩),.pointer (some ⟨tb,0,none⟩),u2,u3,u4,u5,u6,u7,u8,u9,u10,u11,u12,u13,u14,u15,u16,u17,u18,u19,u20,u21,u22,.pointer (some ⟨pb,0,none⟩),.pointer (some ⟨pb,0,none⟩),.pointer (some ⟨pb,0,none⟩),.chan (some cb),.pointer (some ⟨tb,0,none⟩),.pointer (some ⟨tb,0,none⟩),.pointer (some ⟨tb,1,none⟩),.int .i64 id],[]⟩ (.inRegion aK (Region.linearise.go .any aK 1 t #[true,true,true,true,true,true,true,true,false] [])::kk)) cs) w)(t:Nat):LoneTo Tryz.prog Q (G ((base 37).at ⟨#[.pointer (some ⟨pb,0,none⟩),.pointer (some ⟨tb,0,none⟩),u2,u3,u4,u5,u6,u7,u8,u9,u10,u11,u12,u13,u14,u15,u16,u17,u18,u19,u20,u21,u22,.pointer (some ⟨pb,0,none⟩),.pointer (some ⟨pb,0,none⟩),.pointer (some ⟨pb,0,none⟩),undef,undef,undef,undef,undef],[]⟩ (.inRegion aK (Region.linearise.go .any aK 6 t #[true,true,true,false,false,false,false,false,false] [])::kk)) cs) w:=by
 obtain⟨i,hi,b,e⟩:=fX (md:=.any) (ops:=aK) (fuel:=5) (t:=t) (listed:= #[true,true,true,false,false,false,false,false,false]) (rs:= [3,4]) (by kernel_rfl) (by simp);rw[e];rcases aw.1 hi with rfl|hi
 ·skip
  refine LoneTo.goes (n:=1) ?_;simp only[aK,Tryz.f37];s_op
  s_stop
  exact Vg d a c b
 ·rw[aq.1 hi]
  refine LoneTo.goes (n:=1) ?_;simp only[aK,Tryz.f37];s_op
  s_stop
  exact RJ d a c b
theorem RO(d:w.cell? ⟨pb,0,none⟩=some (.chan (some cb)))(a:w.cell? ⟨tb,1,none⟩=some (.int .i64 id))(c:∀t,LoneTo Tryz.prog Q (G ((base 37).at ⟨#[.pointer (some ⟨pb,0,none⟩),.pointer (some ⟨tb,0,none⟩),u2,u3,u4,u5,u6,u7,u8,u9,u10,u11,u12,u13,u14,u15,u16,u17,u18,u19,u20,u21,u22,.pointer (some ⟨pb,0,none⟩),.pointer (some ⟨pb,0,none⟩),.pointer (some ⟨pb,0,none⟩),.chan (some cb),.pointer (some ⟨tb,0,none⟩),.pointer (some ⟨tb,0,none⟩),.pointer (some ⟨tb,1,none⟩),.int .i64 id],[]⟩ (.inRegion aK (Region.linearise.go .any aK 1 t #[true,true,true,true,true,true,true,true,false] [])::kk)) cs) w)(t:Nat):LoneTo Tryz.prog Q (G ((base 37).at ⟨#[.pointer (some ⟨pb,0,none⟩),.pointer (some ⟨tb,0,none⟩),u2,u3,u4,u5,u6,u7,u8,u9,u10,u11,u12,u13,u14,u15,u16,u17,u18,u19,u20,u21,u22,.pointer (some ⟨pb,0,none⟩),.pointer (some ⟨pb,0,none⟩),undef,undef,.pointer (some ⟨tb,0,none⟩),undef,undef,undef],[]⟩ (.inRegion aK (Region.linearise.go .any aK 6 t #[true,true,false,false,true,false,false,false,false] [])::kk)) cs) w:=by
 obtain⟨i,hi,b,e⟩:=fX (md:=.any) (ops:=aK) (fuel:=5) (t:=t) (listed:= #[true,true,false,false,true,false,false,false,false]) (rs:= [2,5]) (by kernel_rfl) (by simp);rw[e];rcases aw.1 hi with rfl|hi
 ·skip
  refine LoneTo.goes (n:=1) ?_;simp only[aK,Tryz.f37];s_op
  s_stop
  exact RJ d a c b
 ·rw[aq.1 hi]
  refine LoneTo.goes (n:=1) ?_;simp only[aK,Tryz.f37];s_op
  s_stop
  exact RN d a c b
theorem RR(d:w.cell? ⟨pb,0,none⟩=some (.chan (some cb)))(a:w.cell? ⟨tb,1,none⟩=some (.int .i64 id))(c:∀t,LoneTo Tryz.prog Q (G ((base 37).at ⟨#[.pointer (some ⟨pb,0,none⟩),.pointer (some ⟨tb,0,none⟩),u2,u3,u4,u5,u6,u7,u8,u9,u10,u11,u12,u13,u14,u15,u16,u17,u18,u19,u20,u21,u22,.pointer (some ⟨pb,0,none⟩),.pointer (some ⟨pb,0,none⟩),.pointer (some ⟨pb,0,none⟩),.chan (some cb),.pointer (some ⟨tb,0,none⟩),.pointer (some ⟨tb,0,none⟩),.pointer (some ⟨tb,1,none⟩),.int .i64 id],[]⟩ (.inRegion aK (Region.linearise.go .any aK 1 t #[true,true,true,true,true,true,true,true,false] [])::kk)) cs) w)(t:Nat):LoneTo Tryz.prog Q (G ((base 37).at ⟨#[.pointer (some ⟨pb,0,none⟩),.pointer (some ⟨tb,0,none⟩),u2,u3,u4,u5,u6,u7,u8,u9,u10,u11,u12,u13,u14,u15,u16,u17,u18,u19,u20,u21,u22,.pointer (some ⟨pb,0,none⟩),undef,undef,undef,.pointer (some ⟨tb,0,none⟩),.pointer (some ⟨tb,0,none⟩),undef,undef],[]⟩ (.inRegion aK (Region.linearise.go .any aK 6 t #[true,false,false,false,true,true,false,false,false] [])::kk)) cs) w:=by
 obtain⟨i,hi,b,e⟩:=fX (md:=.any) (ops:=aK) (fuel:=5) (t:=t) (listed:= #[true,false,false,false,true,true,false,false,false]) (rs:= [1,6]) (by kernel_rfl) (by simp);rw[e];rcases aw.1 hi with rfl|hi
 ·skip
  refine LoneTo.goes (n:=1) ?_;simp only[aK,Tryz.f37];s_op
  s_stop
  exact RN d a c b
 ·rw[aq.1 hi]
  refine LoneTo.goes (n:=1) ?_;simp only[aK,Tryz.f37];s_op
  s_stop
  exact RQ d a c b
theorem Vl(d:w.cell? ⟨pb,0,none⟩=some (.chan (some cb)))(a:w.cell? ⟨tb,1,none⟩=some (.int .i64 id))(c:∀t,LoneTo Tryz.prog Q (G ((base 37).at ⟨#[.pointer (some ⟨pb,0,none⟩),.pointer (some ⟨tb,0,none⟩),u2,u3,u4,u5,u6,u7,u8,u9,u10,u11,u12,u13,u14,u15,u16,u17,u18,u19,u20,u21,u22,.pointer (some ⟨pb,0,none⟩),.pointer (some ⟨pb,0,none⟩),.pointer (some ⟨pb,0,none⟩),.chan (some cb),.pointer (some ⟨tb,0,none⟩),.pointer (some ⟨tb,0,none⟩),.pointer (some ⟨tb,1,none⟩),.int .i64 id],[]⟩ (.inRegion aK (Region.linearise.go .any aK 1 t #[true,true,true,true,true,true,true,true,false] [])::kk)) cs) w)(t:Nat):LoneTo Tryz.prog Q (G ((base 37).at ⟨#[.pointer (some ⟨pb,0,none⟩),.pointer (some ⟨tb,0,none⟩),u2,u3,u4,u5,u6,u7,u8,u9,u10,u11,u12,u13,u14,u15,u16,u17,u18,u19,u20,u21,u22,undef,undef,undef,undef,.pointer (some ⟨tb,0,none⟩),.pointer (some ⟨tb,0,none⟩),.pointer (some ⟨tb,1,none⟩),undef],[]⟩ (.inRegion aK (Region.linearise.go .any aK 6 t #[false,false,false,false,true,true,true,false,false] [])::kk)) cs) w:=by
 obtain⟨i,hi,b,e⟩:=fX (md:=.any) (ops:=aK) (fuel:=5) (t:=t) (listed:= #[false,false,false,false,true,true,true,false,false]) (rs:= [0,7]) (by kernel_rfl) (by simp);rw[e];rcases aw.1 hi with rfl|hi
 ·skip
  refine LoneTo.goes (n:=1) ?_;simp only[aK,Tryz.f37];s_op
  s_stop
  exact RQ d a c b
 ·rw[aq.1 hi]
  refine LoneTo.goes (n:=1) ?_;simp only[aK,Tryz.f37];s_op
  s_stop
  exact Vk d a c b
theorem Vi(d:w.cell? ⟨pb,0,none⟩=some (.chan (some cb)))(a:w.cell? ⟨tb,1,none⟩=some (.int .i64 id))(c:∀t,LoneTo Tryz.prog Q (G ((base 37).at ⟨#[.pointer (some ⟨pb,0,none⟩),.pointer (some ⟨tb,0,none⟩),u2,u3,u4,u5,u6,u7,u8,u9,u10,u11,u12,u13,u14,u15,u16,u17,u18,u19,u20,u21,u22,.pointer (some ⟨pb,0,none⟩),.pointer (some ⟨pb,0,none⟩),.pointer (some ⟨pb,0,none⟩),.chan (some cb),.pointer (some ⟨tb,0,none⟩),.pointer (some ⟨tb,0,none⟩),.pointer (some ⟨tb,1,none⟩),.int .i64 id],[]⟩ (.inRegion aK (Region.linearise.go .any aK 1 t #[true,true,true,true,true,true,true,true,false] [])::kk)) cs) w)(t:Nat):LoneTo Tryz.prog Q (G ((base 37).at ⟨#[.pointer (some ⟨pb,0,none⟩),.pointer (some ⟨tb,0,none⟩),u2,u3,u4,u5,u6,u7,u8,u9,u10,u11,u12,u13,u14,u15,u16,u17,u18,u19,u20,u21,u22,.pointer (some ⟨pb,0,none⟩),.pointer (some ⟨pb,0,none⟩),undef,undef,undef,undef,undef,undef],[]⟩ (.inRegion aK (Region.linearise.go .any aK 7 t #[true,true,false,false,false,false,false,false,false] [])::kk)) cs) w:=by
 obtain⟨i,hi,b,e⟩:=fX (md:=.any) (ops:=aK) (fuel:=6) (t:=t) (listed:= #[true,true,false,false,false,false,false,false,false]) (rs:= [2,4]) (by kernel_rfl) (by simp);rw[e];rcases aw.1 hi with rfl|hi
 ·skip
  refine LoneTo.goes (n:=1) ?_;simp only[aK,Tryz.f37];s_op
  s_stop
  exact Vh d a c b
 ·rw[aq.1 hi]
  refine LoneTo.goes (n:=1) ?_;simp only[aK,Tryz.f37];s_op
  s_stop
  exact RO d a c b
theorem RS(d:w.cell? ⟨pb,0,none⟩=some (.chan (some cb)))(a:w.cell? ⟨tb,1,none⟩=some (.int .i64 id))(c:∀t,LoneTo Tryz.prog Q (G ((base 37).at ⟨#[.pointer (some ⟨pb,0,none⟩),.pointer (some ⟨tb,0,none⟩),u2,u3,u4,u5,u6,u7,u8,u9,u10,u11,u12,u13,u14,u15,u16,u17,u18,u19,u20,u21,u22,.pointer (some ⟨pb,0,none⟩),.pointer (some ⟨pb,0,none⟩),.pointer (some ⟨pb,0,none⟩),.chan (some cb),.pointer (some ⟨tb,0,none⟩),.pointer (some ⟨tb,0,none⟩),.pointer (some ⟨tb,1,none⟩),.int .i64 id],[]⟩ (.inRegion aK (Region.linearise.go .any aK 1 t #[true,true,true,true,true,true,true,true,false] [])::kk)) cs) w)(t:Nat):LoneTo Tryz.prog Q (G ((base 37).at ⟨#[.pointer (some ⟨pb,0,none⟩),.pointer (some ⟨tb,0,none⟩),u2,u3,u4,u5,u6,u7,u8,u9,u10,u11,u12,u13,u14,u15,u16,u17,u18,u19,u20,u21,u22,.pointer (some ⟨pb,0,none⟩),undef,undef,undef,.pointer (some ⟨tb,0,none⟩),undef,undef,undef],[]⟩ (.inRegion aK (Region.linearise.go .any aK 7 t #[true,false,false,false,true,false,false,false,false] [])::kk)) cs) w:=by
 obtain⟨i,hi,b,e⟩:=fX (md:=.any) (ops:=aK) (fuel:=6) (t:=t) (listed:= #[true,false,false,false,true,false,false,false,false]) (rs:= [1,5]) (by kernel_rfl) (by simp);rw[e];rcases aw.1 hi with rfl|hi
 ·skip
  refine LoneTo.goes (n:=1) ?_;simp only[aK,Tryz.f37];s_op
  s_stop
  exact RO d a c b
 ·rw[aq.1 hi]
  refine LoneTo.goes (n:=1) ?_;simp only[aK,Tryz.f37];s_op
  s_stop
  exact RR d a c b
theorem Vm(d:w.cell? ⟨pb,0,none⟩=some (.chan (some cb)))(a:w.cell? ⟨tb,1,none⟩=some (.int .i64 id))(c:∀t,LoneTo Tryz.prog Q (G ((base 37).at ⟨#[.pointer (some ⟨pb,0,none⟩),.pointer (some ⟨tb,0,none⟩),u2,u3,u4,u5,u6,u7,u8,u9,u10,u11,u12,u13,u14,u15,u16,u17,u18,u19,u20,u21,u22,.pointer (some ⟨pb,0,none⟩),.pointer (some ⟨pb,0,none⟩),.pointer (some ⟨pb,0,none⟩),.chan (some cb),.pointer (some ⟨tb,0,none⟩),.pointer (some ⟨tb,0,none⟩),.pointer (some ⟨tb,1,none⟩),.int .i64 id],[]⟩ (.inRegion aK (Region.linearise.go .any aK 1 t #[true,true,true,true,true,true,true,true,false] [])::kk)) cs) w)(t:Nat):LoneTo Tryz.prog Q (G ((base 37).at ⟨#[.pointer (some ⟨pb,0,none⟩),.pointer (some ⟨tb,0,none⟩),u2,u3,u4,u5,u6,u7,u8,u9,u10,u11,u12,u13,u14,u15,u16,u17,u18,u19,u20,u21,u22,undef,undef,undef,undef,.pointer (some ⟨tb,0,none⟩),.pointer (some ⟨tb,0,none⟩),undef,undef],[]⟩ (.inRegion aK (Region.linearise.go .any aK 7 t #[false,false,false,false,true,true,false,false,false] [])::kk)) cs) w:=by
 obtain⟨i,hi,b,e⟩:=fX (md:=.any) (ops:=aK) (fuel:=6) (t:=t) (listed:= #[false,false,false,false,true,true,false,false,false]) (rs:= [0,6]) (by kernel_rfl) (by simp);rw[e];rcases aw.1 hi with rfl|hi
 ·skip
  refine LoneTo.goes (n:=1) ?_;simp only[aK,Tryz.f37];s_op
  s_stop
  exact RR d a c b
 ·rw[aq.1 hi]
  refine LoneTo.goes (n:=1) ?_;simp only[aK,Tryz.f37];s_op
  s_stop
  exact Vl d a c b
theorem Vj(d:w.cell? ⟨pb,0,none⟩=some (.chan (some cb)))(a:w.cell? ⟨tb,1,none⟩=some (.int .i64 id))(c:∀t,LoneTo Tryz.prog Q (G ((base 37).at ⟨#[.pointer (some ⟨pb,0,none⟩),.pointer (some ⟨tb,0,none⟩),u2,u3,u4,u5,u6,u7,u8,u9,u10,u11,u12,u13,u14,u15,u16,u17,u18,u19,u20,u21,u22,.pointer (some ⟨pb,0,none⟩),.pointer (some ⟨pb,0,none⟩),.pointer (some ⟨pb,0,none⟩),.chan (some cb),.pointer (some ⟨tb,0,none⟩),.pointer (some ⟨tb,0,none⟩),.pointer (some ⟨tb,1,none⟩),.int .i64 id],[]⟩ (.inRegion aK (Region.linearise.go .any aK 1 t #[true,true,true,true,true,true,true,true,false] [])::kk)) cs) w)(t:Nat):LoneTo Tryz.prog Q (G ((base 37).at ⟨#[.pointer (some ⟨pb,0,none⟩),.pointer (some ⟨tb,0,none⟩),u2,u3,u4,u5,u6,u7,u8,u9,u10,u11,u12,u13,u14,u15,u16,u17,u18,u19,u20,u21,u22,.pointer (some ⟨pb,0,none⟩),undef,undef,undef,undef,undef,undef,undef],[]⟩ (.inRegion aK (Region.linearise.go .any aK 8 t #[true,false,false,false,false,false,false,false,false] [])::kk)) cs) w:=by
 obtain⟨i,hi,b,e⟩:=fX (md:=.any) (ops:=aK) (fuel:=7) (t:=t) (listed:= #[true,false,false,false,false,false,false,false,false]) (rs:= [1,4]) (by kernel_rfl) (by simp);rw[e];rcases aw.1 hi with rfl|hi
 ·skip
  refine LoneTo.goes (n:=1) ?_;simp only[aK,Tryz.f37];s_op
  s_stop
  exact Vi d a c b
 ·rw[aq.1 hi]
  refine LoneTo.goes (n:=1) ?_;simp only[aK,Tryz.f37];s_op
  s_stop
  exact RS d a c b
theorem Vn(d:w.cell? ⟨pb,0,none⟩=some (.chan (some cb)))(a:w.cell? ⟨tb,1,none⟩=some (.int .i64 id))(c:∀t,LoneTo Tryz.prog Q (G ((base 37).at ⟨#[.pointer (some ⟨pb,0,none⟩),.pointer (some ⟨tb,0,none⟩),u2,u3,u4,u5,u6,u7,u8,u9,u10,u11,u12,u13,u14,u15,u16,u17,u18,u19,u20,u21,u22,.pointer (some ⟨pb,0,none⟩),.pointer (some ⟨pb,0,none⟩),.pointer (some ⟨pb,0,none⟩),.chan (some cb),.pointer (some ⟨tb,0,none⟩),.pointer (some ⟨tb,0,none⟩),.pointer (some ⟨tb,1,none⟩),.int .i64 id],[]⟩ (.inRegion aK (Region.linearise.go .any aK 1 t #[true,true,true,true,true,true,true,true,false] [])::kk)) cs) w)(t:Nat):LoneTo Tryz.prog Q (G ((base 37).at ⟨#[.pointer (some ⟨pb,0,none⟩),.pointer (some ⟨tb,0,none⟩),u2,u3,u4,u5,u6,u7,u8,u9,u10,u11,u12,u13,u14,u15,u16,u17,u18,u19,u20,u21,u22,undef,undef,undef,undef,.pointer (some ⟨tb,0,none⟩),undef,undef,undef],[]⟩ (.inRegion aK (Region.linearise.go .any aK 8 t #[false,false,false,false,true,false,false,false,false] [])::kk)) cs) w:=by
 obtain⟨i,hi,b,e⟩:=fX (md:=.any) (ops:=aK) (fuel:=7) (t:=t) (listed:= #[false,false,false,false,true,false,false,false,false]) (rs:= [0,5]) (by kernel_rfl) (by simp);rw[e];rcases aw.1 hi with rfl|hi
 ·skip
  refine LoneTo.goes (n:=1) ?_;simp only[aK,Tryz.f37];s_op
  s_stop
  exact RS d a c b
 ·rw[aq.1 hi]
  refine LoneTo.goes (n:=1) ?_;simp only[aK,Tryz.f37];s_op
  s_stop
  exact Vm d a c b
theorem Vp(d:w.cell? ⟨pb,0,none⟩=some (.chan (some cb)))(a:w.cell? ⟨tb,1,none⟩=some (.int .i64 id))(c:∀t,LoneTo Tryz.prog Q (G ((base 37).at ⟨#[.pointer (some ⟨pb,0,none⟩),.pointer (some ⟨tb,0,none⟩),u2,u3,u4,u5,u6,u7,u8,u9,u10,u11,u12,u13,u14,u15,u16,u17,u18,u19,u20,u21,u22,.pointer (some ⟨pb,0,none⟩),.pointer (some ⟨pb,0,none⟩),.pointer (some ⟨pb,0,none⟩),.chan (some cb),.pointer (some ⟨tb,0,none⟩),.pointer (some ⟨tb,0,none⟩),.pointer (some ⟨tb,1,none⟩),.int .i64 id],[]⟩ (.inRegion aK (Region.linearise.go .any aK 1 t #[true,true,true,true,true,true,true,true,false] [])::kk)) cs) w)(t:Nat):LoneTo Tryz.prog Q (G ((base 37).at ⟨#[.pointer (some ⟨pb,0,none⟩),.pointer (some ⟨tb,0,none⟩),u2,u3,u4,u5,u6,u7,u8,u9,u10,u11,u12,u13,u14,u15,u16,u17,u18,u19,u20,u21,u22,undef,undef,undef,undef,undef,undef,undef,undef],[]⟩ (.inRegion aK (Region.linearise.go .any aK 9 t #[false,false,false,false,false,false,false,false,false] [])::kk)) cs) w:=by
 obtain⟨i,hi,b,e⟩:=fX (md:=.any) (ops:=aK) (fuel:=8) (t:=t) (listed:= #[false,false,false,false,false,false,false,false,false]) (rs:= [0,4]) (by kernel_rfl) (by simp);rw[e];rcases aw.1 hi with rfl|hi
 ·skip
  refine LoneTo.goes (n:=1) ?_;simp only[aK,Tryz.f37];s_op
  s_stop
  exact Vj d a c b
 ·rw[aq.1 hi]
  refine LoneTo.goes (n:=1) ?_;simp only[aK,Tryz.f37];s_op
  s_stop
  exact Vn d a c b
end
theorem LG{P:Program}{c:Bool}{b:Frame}{a:Act}{k:List Item}{cs:List Frame}{w:World}{id:Nat}{ops:Array Oper}:stepG P c (G (b.at a (.code (.region id ops true)::k)) cs) w=.go (G (b.at a (.inRegion ops (Region.schedule (P.follows .mixedOrders) ops (w.tape w.drawn (.order b.fn id)))::k)) cs) {w with drawn:=w.drawn+1}:=by
 simp[G,stepG,stepG.exec,Frame.at,choose,Sem.run,Question.forced,Question.cut]
set_option maxRecDepth 100000 in
theorem Q7{w:World}{b:Nat}{c:Array Value}{t:TypeId}(g:w.heap[b]? =some (.cells c t (0,0))) (hc:0<c.size):(binOp .neq 39 (.pointer (some ⟨b,0,none⟩)) (.pointer (some ⟨b,0,none⟩))).run Tryz.prog w=.ok (.bool false) w:=by
 have d:Tryz.prog.underlying 39=some (.pointer 130):=by kernel_rfl
 have hz:Nat.beq (ce Tryz.prog 130) 0=false:=by kernel_rfl
 have e:eY w.heap ⟨b,0,none⟩:=⟨c,t,g,hc⟩;have h:Ut Tryz.prog 39 true (.pointer (some ⟨b,0,none⟩)) (.pointer (some ⟨b,0,none⟩)) (fun v _=>v=.bool false) w.heap:=by
  unfold Ut;rw[d];simp only[];rw[hz];refine⟨trivial,fun x y hx j=>?_,by simp⟩
  cases hx;cases j;exact⟨e,e⟩
 unfold Ut at h;rw[d]at h;obtain⟨_,a,_⟩:=h;obtain⟨_,_,v,S,k,m,i⟩:=BM (P:=Tryz.prog) (t:=39) (neg:=true) (x:=.pointer (some ⟨b,0,none⟩)) (y:=.pointer (some ⟨b,0,none⟩)) (K:=fun v S=>v=.bool false∧Su S w.heap) (h:=w.heap) (by
  unfold Ut
  rw[d]
  simp only[]
  rw[hz]
  exact⟨trivial,a,by simp,a⟩)
 obtain⟨rfl,f⟩:=k;exact i w f
set_option maxRecDepth 100000 in
set_option maxHeartbeats 4000000 in
theorem RC{w:World}{pb tb cb cap s r:Nat}{id:Int}{buf:Array Value}(m:w.heap[pb]? =some (.cells #[.chan (some cb)] 130 (0,0))) (b:w.heap[tb]? =some (.cells #[.pointer (some ⟨pb,0,none⟩),.int .i64 id,.bool true] 140 (0,0))) (hc:w.heap[cb]? =some (.chan cap buf false s r false)) (q:buf.size<cap) (d:pb≠tb) (f:cb≠tb):
  Calls Tryz.prog 37 #[.pointer (some ⟨pb,0,none⟩),.pointer (some ⟨tb,0,none⟩)] w fun e w'=>e=.returned (.int .i64 0)∧∃n,w'=({w.setCell ⟨tb,2,none⟩ (.bool false)with drawn:=n}:World).setChan cb cap (buf.push (.int .i64 id)) false (s+1) r false:=by
 refine calls_of_loneTo fun cs=>?_
 have e:Frame.enter Tryz.prog 37 #[.pointer (some ⟨pb,0,none⟩),.pointer (some ⟨tb,0,none⟩)] .normal=(base 37).at ⟨#[.pointer (some ⟨pb,0,none⟩),.pointer (some ⟨tb,0,none⟩),undef,undef,undef,undef,undef,undef,undef,undef,undef,undef,undef,undef,undef,undef,undef,undef,undef,undef,undef,undef,undef,undef,undef,undef,undef,undef,undef,undef,undef],[]⟩ [.code (Tryz.f37.body.getD .skip)]:=by
  simp[Frame.enter,Frame.at,Tryz.func37,base,Tryz.f37]
 rw[e];have p:=xy b (i:=0) rfl;have u:=xy b (i:=2) rfl;have v:=Pw b (i:=2);have o:=Q7 m (by simp);refine LoneTo.goes (n:=52) ?_;simp only[Tryz.f37,pS];s_c stepG_seq
 s_reg
 s_op
 s_c stepG_region_end
 s_c stepG_seq
 s_c stepG_seq
 s_reg
 s_op
 s_op
 s_op
 s_op
 s_call Tryz.func79 (by kernel_rfl) Tryz.f79
 s_c stepG_seq
 s_reg
 s_op
 s_c stepG_region_end
 s_c stepG_seq
 s_reg
 s_op
 s_op
 s_op
 s_op
 s_op
 s_op
 s_op
 s_op
 s_op
 s_c stepG_region_end
 s_c stepG_ret'
 s_leave1 Tryz.func79
 s_op
 s_op
 s_op
 s_op
 s_op
 s_op
 s_op
 s_op
 s_op
 s_op
 s_c stepG_region_end
 s_cond false
 s_c stepG_skip
 s_c stepG_seq
 s_reg
 s_op
 s_op
 s_op
 s_op
 s_c stepG_region_end
 s_c stepG_seq
 s_in
 rw[LG];simp only[goes_go];refine⟨trivial,?_⟩;s_stop
 have hm:Tryz.prog.follows .mixedOrders=true:=Tryz.mixed;simp only[Region.schedule,hm,Bool.true_or,if_true,Region.linearise];have k:=Upd.hset (M:=(· =tb)) w.heap (a:=⟨tb,2,none⟩) (.bool false) rfl
 have j:=k.get m (fun e=>d e)
 have g:=k.get hc (fun e=>f e)
 refine Vp (pb:=pb) (tb:=tb) (cb:=cb) (id:=id) (xy j (i:=0) rfl) ?_ (fun t=>?_) _
 ·show(w.setCell ⟨tb,2,none⟩ (.bool false)).cell? ⟨tb,1,none⟩=_
  rw[World.cell?_setCell_other _ _ _ _ (by simp)];exact xy b (i:=1) rfl
 ·obtain⟨i,hi,x,e⟩:=fX (md:=.any) (ops:=aK) (fuel:=0) (t:=t) (listed:= #[true,true,true,true,true,true,true,true,false]) (rs:= [8]) (by kernel_rfl) (by simp)
  rw[e,aq.1 hi];simp only[aK,Tryz.f37,Region.linearise.go,List.reverse_nil];refine LoneTo.step (step_lone_send_room (c:=cb) (cap:=cap) (buf:=buf) (s:=s) (r:=r) (tm:=false) (stepG_comm (cases:= #[scase cb (.int .i64 id) (.tuple #[])]) (blocking:=true) (shape:=.send) (w':={w.setCell ⟨tb,2,none⟩ (.bool false)with drawn:=w.drawn+1}) rfl rfl (by decide) (by simp[execOp,scase,Act.eval])) g q) ?_
  rw[Frame.finish_at];walk_nrm
  refine LoneTo.goes (n:=6) ?_;s_c stepG_region_end
  s_c stepG_seq
  s_reg
  s_op
  s_c stepG_region_end
  s_c stepG_ret'
  s_stop
  refine LoneTo.done ⟨.returned (.int .i64 0),_,rfl,⟨rfl,_,rfl⟩,rfl,rfl,rfl,rfl,_,Tryz.func37,by simp[results,Tryz.f37,Frame.at]⟩
end Go.Proofs
namespace Go.Proofs
open Go.Lift
def KI(s:ByteArray)(i:Nat):Int:=match s[i]? with|some b=>(b.toNat:Int)|none=>0
def Uh(b:Int)(n:Int):Int:=IntKind.wrap .u64 ((IntKind.wrap .u64 b)*2^(min n.toNat (IntKind.bits .u64)))
def wj(s:ByteArray):Nat→Int→Int
 |0,t=>t
 |k+1,t=>wj s k (Ef t (if k=0 then IntKind.wrap .u64 (KI s 0)else Uh (KI s k) ((8*k:Nat):Int)))
def xR(s:ByteArray):Int:=wj s s.size 0
theorem sR{s:ByteArray}{i:Nat}(h:i<s.size):∃b,s[i]? =some b∧KI s i=(b.toNat:Int):=⟨s[i],getElem?_pos s i h,by simp[KI,getElem?_pos s i h]⟩
theorem NL{s:ByteArray}(I:s.size≤8){h:ae}{K:Int→ae→Prop}(g:K (xR s) h):HC PG vo [.string s] [.c (.int .u64)] K h:=by
 refine Nd s ?_;unfold E7;refine Join.intro (fun t c=>c=h∧1≤s.size∧wj s 1 t=wj s s.size 0) (fun E n=>?_) ?_
 ·refine Join.intro (fun t c=>c=h∧2≤s.size∧wj s 2 t=wj s s.size 0) (fun R2 m=>?_) ?_
  ·refine Join.intro (fun t c=>c=h∧3≤s.size∧wj s 3 t=wj s s.size 0) (fun Q q=>?_) ?_
   ·refine Join.intro (fun t c=>c=h∧4≤s.size∧wj s 4 t=wj s s.size 0) (fun N p=>?_) ?_
    ·refine Join.intro (fun t c=>c=h∧5≤s.size∧wj s 5 t=wj s s.size 0) (fun F j=>?_) ?_
     ·refine Join.intro (fun t c=>c=h∧6≤s.size∧wj s 6 t=wj s s.size 0) (fun P o=>?_) ?_
      ·refine Join.intro (fun t c=>c=h∧7≤s.size∧wj s 7 t=wj s s.size 0) (fun H k=>?_) ?_
       ·refine CondP.intro (fun e=>?_) fun x=>?_
        ·have e:s.size=8:=by have:=of_decide_eq_true (by simpa using e:decide ((s.size:Int)=8)=true);omega
         obtain⟨b,a,hv⟩:=sR (s:=s) (i:=7) (by omega);refine⟨b,by decide,a,by decide,k _ _ ⟨rfl,by omega,?_⟩⟩
         rw[e,←hv];rfl
        refine CondP.intro (fun e=>?_) fun v=>?_
        ·have e:s.size=7:=by have:=of_decide_eq_true (by simpa using e:decide ((s.size:Int)=7)=true);omega
         exact k _ _ ⟨rfl,by omega,by rw[e]⟩
        refine CondP.intro (fun e=>?_) fun z=>?_
        ·have e:s.size=6:=by have:=of_decide_eq_true (by simpa using e:decide ((s.size:Int)=6)=true);omega
         exact o _ _ ⟨rfl,by omega,by rw[e]⟩
        refine CondP.intro (fun e=>?_) fun w=>?_
        ·have e:s.size=5:=by have:=of_decide_eq_true (by simpa using e:decide ((s.size:Int)=5)=true);omega
         exact j _ _ ⟨rfl,by omega,by rw[e]⟩
        refine CondP.intro (fun e=>?_) fun u=>?_
        ·have e:s.size=4:=by have:=of_decide_eq_true (by simpa using e:decide ((s.size:Int)=4)=true);omega
         exact p _ _ ⟨rfl,by omega,by rw[e]⟩
        refine CondP.intro (fun e=>?_) fun B=>?_
        ·have e:s.size=3:=by have:=of_decide_eq_true (by simpa using e:decide ((s.size:Int)=3)=true);omega
         exact q _ _ ⟨rfl,by omega,by rw[e]⟩
        refine CondP.intro (fun e=>?_) fun y=>?_
        ·have e:s.size=2:=by have:=of_decide_eq_true (by simpa using e:decide ((s.size:Int)=2)=true);omega
         exact m _ _ ⟨rfl,by omega,by rw[e]⟩
        refine CondP.intro (fun e=>?_) fun A=>?_
        ·have e:s.size=1:=by have:=of_decide_eq_true (by simpa using e:decide ((s.size:Int)=1)=true);omega
         exact n _ _ ⟨rfl,by omega,by rw[e]⟩
        have e:s.size=0:=by
         have C:¬(s.size:Int)=1:=by simpa using A
         have J:¬(s.size:Int)=2:=by simpa using y
         have L:¬(s.size:Int)=3:=by simpa using B
         have q4:¬(s.size:Int)=4:=by simpa using u
         have O:¬(s.size:Int)=5:=by simpa using w
         have D:¬(s.size:Int)=6:=by simpa using z
         have G:¬(s.size:Int)=7:=by simpa using v
         have M:¬(s.size:Int)=8:=by simpa using x
         omega
        unfold xR at g;rw[e]at g;exact g
       ·rintro t _ ⟨rfl,f,d⟩
        obtain⟨b,a,hv⟩:=sR (s:=s) (i:=6) (by omega);refine⟨b,by decide,a,by decide,o _ _ ⟨rfl,by omega,?_⟩⟩
        rw[←d,←hv];rfl
      ·rintro t _ ⟨rfl,f,d⟩
       obtain⟨b,a,hv⟩:=sR (s:=s) (i:=5) (by omega);refine⟨b,by decide,a,by decide,j _ _ ⟨rfl,by omega,?_⟩⟩
       rw[←d,←hv];rfl
     ·rintro t _ ⟨rfl,f,d⟩
      obtain⟨b,a,hv⟩:=sR (s:=s) (i:=4) (by omega);refine⟨b,by decide,a,by decide,p _ _ ⟨rfl,by omega,?_⟩⟩
      rw[←d,←hv];rfl
    ·rintro t _ ⟨rfl,f,d⟩
     obtain⟨b,a,hv⟩:=sR (s:=s) (i:=3) (by omega);refine⟨b,by decide,a,by decide,q _ _ ⟨rfl,by omega,?_⟩⟩
     rw[←d,←hv];rfl
   ·rintro t _ ⟨rfl,f,d⟩
    obtain⟨b,a,hv⟩:=sR (s:=s) (i:=2) (by omega);refine⟨b,by decide,a,by decide,m _ _ ⟨rfl,by omega,?_⟩⟩
    rw[←d,←hv];rfl
  ·rintro t _ ⟨rfl,f,d⟩
   obtain⟨b,a,hv⟩:=sR (s:=s) (i:=1) (by omega);refine⟨b,by decide,a,by decide,n _ _ ⟨rfl,by omega,?_⟩⟩
   rw[←d,←hv];rfl
 ·rintro t _ ⟨rfl,f,d⟩
  obtain⟨b,a,hv⟩:=sR (s:=s) (i:=0) (by omega);refine⟨b,by decide,a,?_⟩
  unfold xR at g;rw[←d]at g;rw[←hv];exact g
end Go.Proofs
namespace Go.Proofs
open Go.Lift
def qR(m:Int)(s:Q4):Q4:=
 let r:=oD 2 (s.1,s.2.1,s.2.2.1,du s.2.2.2 m)
 (du r.1 m,r.2)
theorem NQ{m:Int}{h:ae}{b:Nat}{t:TypeId}{s:Q4}(d:h[b]? =some (.cells (q4 s) t (0,0))) {K:Unit→ae→Prop}
  (k:∀h',h'[b]? =some (.cells (q4 (qR m s)) t (0,0))→Upd (· =b) h h'→K () h'):HC PG mG [.pointer (some ⟨b,0,none⟩),.int .u64 m] [] K h:=by
 refine BX _ _ ?_;unfold uM bR cQ cY lq;have c:∀{h:ae} {s:Q4} {i:Nat},h[b]? =some (.cells (q4 s) t (0,0))→aJ h ⟨b,0+i,none⟩=(q4 s)[i]?:=fun d=>by rw[aI];exact bl d
 have w:∀{h:ae} {s:Q4} {i:Nat},h[b]? =some (.cells (q4 s) t (0,0))→i<4→Wr h ⟨b,0+i,none⟩:=fun d hi=>by rw[aI];exact iX d hi
 simp only[show((0:Int)).toNat*1=0 from rfl,show((3:Int)).toNat*1=3 from rfl]
 refine⟨_,rfl,by decide,_,c (i:=3) d,_,rfl,by decide,w (i:=3) d (by decide),pG (s':=(s.1,s.2.1,s.2.2.1,du s.2.2.2 m)) d rfl fun q e f=>?_⟩
 refine Gv (n:=2) (by omega) e fun v a j=>?_
 have p:qR m s=(du (oD 2 (s.1,s.2.1,s.2.2.1,du s.2.2.2 m)).1 m,(oD 2 (s.1,s.2.1,s.2.2.1,du s.2.2.2 m)).2):=by unfold qR;rfl
 rw[p]at k;generalize oD 2 (s.1,s.2.1,s.2.2.1,du s.2.2.2 m)=r at a k;refine⟨_,rfl,by decide,_,c (i:=0) a,_,rfl,by decide,w (i:=0) a (by decide),pG (s':=(du r.1 m,r.2)) a rfl fun u g o=>?_⟩
 exact k _ g (f.tr (j.tr o))
def Cf:Nat→ByteArray→Q4→ByteArray×Q4
 |0,s,q=>(s,q)
 |n+1,s,q=>if 8≤s.size then Cf n (s.extract 8 s.size) (qR (xR (s.extract 0 8)) q)else(s,q)
def Vf(r:Q4):Int:=du (du (du r.1 r.2.1) r.2.2.1) r.2.2.2
def TQ(q:Q4):Int:=Vf (oD 4 (q.1,q.2.1,du q.2.2.1 255,q.2.2.2))
def VZ(n:Nat)(g:ByteArray×Q4):Int:=TQ (qR (Ef (xR g.1) (Uh (n:Int) 56)) g.2)
def LD(k0 k1:Int)(s:ByteArray):Int:=
 VZ s.size (Cf s.size s (du k0 8317987319222330741,du k1 7237128888997146477,du k0 7816392313619706465,du k1 8387220255154660723))
theorem TR{a:ae}{b:Nat}{t:TypeId}{r:Q4}(f:a[b]? =some (.cells (q4 r) t (0,0))) {K:Int→Prop} (g:K (Vf r)):
  (((0:Int)≤(0:Int)∧(0:Int)<((4:Nat):Int))∧
   ∃v30:Int,aJ a (adr ⟨b,0,none⟩ ((0:Int).toNat*1))=some (.int .u64 v30)∧
   (((0:Int)≤(1:Int)∧(1:Int)<((4:Nat):Int))∧
    ∃v31:Int,aJ a (adr ⟨b,0,none⟩ ((1:Int).toNat*1))=some (.int .u64 v31)∧
    Bd (IntKind.wrap .u64 (ao (IntKind.bits .u64) v30^^^ao (IntKind.bits .u64) v31).toNat:Int) (fun n32=>
     (((0:Int)≤(2:Int)∧(2:Int)<((4:Nat):Int))∧
      ∃v33:Int,aJ a (adr ⟨b,0,none⟩ ((2:Int).toNat*1))=some (.int .u64 v33)∧
      Bd (IntKind.wrap .u64 (ao (IntKind.bits .u64) n32^^^ao (IntKind.bits .u64) v33).toNat:Int) (fun e=>
       (((0:Int)≤(3:Int)∧(3:Int)<((4:Nat):Int))∧
        ∃v35:Int,aJ a (adr ⟨b,0,none⟩ ((3:Int).toNat*1))=some (.int .u64 v35)∧
        Bd (IntKind.wrap .u64 (ao (IntKind.bits .u64) e^^^ao (IntKind.bits .u64) v35).toNat:Int) (fun d=>
         K d))))))):=by
 have c:∀{i:Nat},aJ a ⟨b,0+i,none⟩=(q4 r)[i]?:=by intro i;rw[aI];exact bl f
 exact⟨by decide,_,c (i:=0),by decide,_,c (i:=1),by decide,_,c (i:=2),by decide,_,c (i:=3),g⟩
theorem TP{a:ae}{b:Nat}{t:TypeId}{q:Q4}(f:a[b]? =some (.cells (q4 q) t (0,0))) {K:Unit→ae→Prop}
  (p:∀h',h'[b]? =some (.cells (q4 (oD 4 (q.1,q.2.1,du q.2.2.1 255,q.2.2.2))) t (0,0))→Upd (· =b) a h'→K () h'):
  (((0:Int)≤(2:Int)∧(2:Int)<((4:Nat):Int))∧
   ∃v25:Int,aJ a (adr ⟨b,0,none⟩ ((2:Int).toNat*1))=some (.int .u64 v25)∧
   Bd (IntKind.wrap .u64 (ao (IntKind.bits .u64) v25^^^ao (IntKind.bits .u64) 255).toNat:Int) (fun e=>
    (((0:Int)≤(2:Int)∧(2:Int)<((4:Nat):Int))∧
     (Wr a (adr ⟨b,0,none⟩ ((2:Int).toNat*1))∧
      At (hset a (adr ⟨b,0,none⟩ ((2:Int).toNat*1)) (.int .u64 e)) (fun j=>
       HC PG iY [.pointer (some ⟨b,0,none⟩),.int .i64 4] [] K j))))):=by
 have c:∀{i:Nat},aJ a ⟨b,0+i,none⟩=(q4 q)[i]?:=by intro i;rw[aI];exact bl f
 refine⟨by decide,_,c (i:=2),by decide,by rw[show((2:Int)).toNat*1=2 from rfl,bV];exact iX f (by simp[q4]),?_⟩
 refine pG (s':=(q.1,q.2.1,du q.2.2.1 255,q.2.2.2)) f rfl fun s d k=>?_
 exact Gv (n:=4) (by omega) d fun o g m=>p o g (k.tr m)
theorem bU{h:ae}{k:ae→Prop}(a:k h):At h k:=a
theorem UL{k0 k1:Int}{s:ByteArray}{h:ae}{K:Int→ae→Prop}(D:∀p,Upd No h p→K (LD k0 k1 s) p):HC PG BH [.agg #[.int .u64 k0,.int .u64 k1],.string s] [.c (.int .u64)] K h:=by
 refine PS (k0,k1) s ?_;unfold He bR cQ ag nv cY lq V5 OF OJ SW;have u:=Upd.hnew No h [.int .u64 k0,.int .u64 k1] lj;have b1:=cO h [.int .u64 k0,.int .u64 k1] lj;have L:=jm h [.int .u64 k0,.int .u64 k1] lj;refine bU ?_;simp only[fE h];generalize hnew h [.int .u64 k0,.int .u64 k1] lj=h1 at u b1 L;refine⟨k0,by rw[bV,bl b1];rfl,k1,by rw[bV,bl b1];rfl,k0,by rw[bV,bl b1];rfl,k1,by rw[bV,bl b1];rfl,?_⟩
 have G:=Upd.hnew No h1 [.int .u64 0,.int .u64 0,.int .u64 0,.int .u64 0] jq;have b2:=cO h1 [.int .u64 0,.int .u64 0,.int .u64 0,.int .u64 0] jq;simp only[fE h1];simp only[Bd];refine bU ?_;refine⟨.inr ⟨_,rfl,fun j E=>by rw[bV];exact iX b2 (by simp at E⊢;omega)⟩,?_⟩
 refine bU ?_;rw[j1 _ _ 0 0 _ b2 (by simp)];have b3:=jt (o:=.cells (q4 (du k0 8317987319222330741,du k1 7237128888997146477,du k0 7816392313619706465,du k1 8387220255154660723)) jq (0,0)) b2;have M:Upd No h _:=u.tr (G.trans (M':=(· =h1.size)) (Upd.set (hnew h1 [.int .u64 0,.int .u64 0,.int .u64 0,.int .u64 0] jq) (.cells (q4 (du k0 8317987319222330741,du k1 7237128888997146477,du k0 7816392313619706465,du k1 8387220255154660723)) jq (0,0)) rfl) fun b d=>.inr (Nat.le_of_eq d.symm))
 refine LoopP.ghost (fun(g:Nat×Q4) (a:ByteArray) p=>a.size≤g.1∧p[h1.size]? =some (.cells (q4 g.2) jq (0,0))∧Upd No h p∧Cf g.1 a g.2=Cf s.size s (du k0 8317987319222330741,du k1 7237128888997146477,du k0 7816392313619706465,du k1 8387220255154660723)) (fun g=>g.1) (s.size,_)
  ⟨Nat.le_refl _,b3,M,rfl⟩ ?_
 rintro I ⟨n,q⟩ a p ⟨H,d,C,t⟩ F;simp only at H d t;have f:∀b,b=h1.size→No b∨h.size≤b:=fun b d=>.inr (by omega)
 refine aB (fun v=>?_) fun z=>?_
 ·have v:8≤a.size:=by omega
  cases n with
  |zero=>omega
  |succ n=>
   refine⟨by omega,NL (by rw[eK];show min 8 _-0≤8;omega) (NQ d fun N e k=>⟨by omega,?_⟩)⟩
   have J:((8:Int)).toNat=8:=rfl;rw[J]at e⊢;refine F (n,qR (xR (a.extract 0 8)) q) _ _ ⟨by simp only[eK];omega,e,C.trans k f,?_⟩ (by simp only;omega);rw[←t];simp only[Cf,if_pos v]
 ·have z:a.size<8:=by omega
  have t:(a,q)=Cf s.size s (du k0 8317987319222330741,du k1 7237128888997146477,du k0 7816392313619706465,du k1 8387220255154660723):=by
   rw[←t];cases n with
   |zero=>rfl
   |succ n=>simp only[Cf,if_neg (show ¬8≤a.size by omega)]
  have c:∀{h:ae} {s:Q4} {i:Nat},h[h1.size]? =some (.cells (q4 s) jq (0,0))→aJ h ⟨h1.size,0+i,none⟩=(q4 s)[i]?:=fun d=>by rw[aI];exact bl d
  have w:∀{h:ae} {s:Q4} {i:Nat},h[h1.size]? =some (.cells (q4 s) jq (0,0))→i<4→Wr h ⟨h1.size,0+i,none⟩:=fun d hi=>by rw[aI];exact iX d hi
  have x:LD k0 k1 s=TQ (qR (Ef (xR a) (Uh (s.size:Int) 56)) q):=by unfold LD;rw[←t];rfl
  rw[x]at D;refine NL (by omega) ⟨by decide,NQ (m:=Ef (xR a) (Uh (s.size:Int) 56)) d fun N e k=>?_⟩
  refine TP e fun B A y=>TR (K:=fun n=>K n B) A ?_
  exact D B ((C.trans k f).trans y f)
structure Hs where
 k0:Int
 k1:Int
 mask:Int
def me(h:Hs)(s:ByteArray):Int:=KM (LD h.k0 h.k1 s) h.mask
theorem vj{x:Hs}{s:ByteArray}{h:ae}{K:Int→ae→Prop}(c:∀h',Upd No h h'→K (me x s) h'):HC PG eZ [.agg #[.int .u64 x.k0,.int .u64 x.k1,.int .u64 x.mask],.string s] [.c (.int .u64)] K h:=by
 refine AC (x.k0,x.k1,x.mask) s ?_;unfold th ag Bx dQ VT;have a:=Upd.hnew No h [.int .u64 x.k0,.int .u64 x.k1,.int .u64 x.mask] cM;have b1:=cO h [.int .u64 x.k0,.int .u64 x.k1,.int .u64 x.mask] cM;simp only[At,fE h];generalize hnew h [.int .u64 x.k0,.int .u64 x.k1,.int .u64 x.mask] cM=h1 at a b1;refine⟨x.k0,by rw[bV,bV,bl b1];rfl,x.k1,by rw[bV,bV,bl b1];rfl,x.mask,by rw[bV,bl b1];rfl,?_⟩
 refine UL fun d b=>⟨by rw[bV,bl (b.get0 b1)];rfl,c _ (a.tr b)⟩
theorem Cs(x:Hs)(s:ByteArray):0≤me x s∧me x s<18446744073709551616:=Bi _
end Go.Proofs
