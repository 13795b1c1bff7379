/- A part of the proof that the named laws of this program answer true, whatever the input. -/
import Derived.Test.YtajpljopgikpgaaGreatDoorTreeF0
import Derived.Test.YtajpljopgikpgaaGreatDoorTreeF1
import Derived.Test.YtajpljopgikpgaaGreatDoorLaw0
import Derived.Conc.LoneSelect
import Derived.KernelRfl
import Derived.Laws.Rows
open BitVec renaming ofInt→ah
open ByteArray renaming size_extract→dV
open List renaming range→cK,mem_singleton→aq,mem_cons→au
open Nat renaming zero_add→aE
open Option renaming getD_some→oO
namespace Go.Proofs
open Go.Lift
theorem zS(n:Int):0≤IntKind.wrap .u64 n∧IntKind.wrap .u64 n<18446744073709551616:=by rw[IntKind.wrap_u64];omega
theorem oq{x:Int}(h: -4611686018427387904≤x∧x≤4611686018427387904):IntKind.wrap .i64 x=x:=Go.IntWalk.i64_in _ (by omega)
theorem cz{i n:Nat}(h:i<n)(a:n≤4611686018427387904):IntKind.wrap .i64 ((i:Int)+1)=((i+1:Nat):Int):=by rw[oq (by omega)];omega
theorem ui{h:ad}{b i:Nat}{c:Array Value}{t:TypeId}{v:Value}{k:ad→Prop}(a:h[b]? =some (.cells c t (0,0)))
  (d:∀h',h'[b]? =some (.cells (c.setIfInBounds i v) t (0,0))→Upd (· =b) h h'→k h'):At (hset h ⟨b,i,none⟩ v) k:=by
 refine d _ ?_ (Upd.hset _ _ rfl);rw[C3 a,jL a]
def IC(a b:Int):Int:=IntKind.wrap .u64 (ah (IntKind.bits .u64) a&&&ah (IntKind.bits .u64) b).toNat
def df(a b:Int):Int:=IntKind.wrap .u64 (ah (IntKind.bits .u64) a^^^ah (IntKind.bits .u64) b).toNat
def CQ(a b:Int):Int:=IntKind.wrap .u64 (ah (IntKind.bits .u64) a|||ah (IntKind.bits .u64) b).toNat
def CF(x n:Int):Int:=
 CQ (IntKind.wrap .u64 (x*2^(min (IC (IntKind.wrap .u64 n) 63).toNat (IntKind.bits .u64)))) (Int.fdiv x (2^(min (IntKind.wrap .u64 (64-IC (IntKind.wrap .u64 n) 63)).toNat (IntKind.bits .u64))))
theorem zX{x n:Int}{h:ad}{K:Int→ad→Prop}(a:K (CF x n) h):HC PG c8 [.int .u64 x,.int .i64 n] [.c (.int .u64)] K h:=by
 refine sE x n ?_;unfold mG;exact⟨(zS _).1,(zS _).1,a⟩
abbrev Q4:=Int×Int×Int×Int
def q4(s:Q4):Array Value:= #[.int .u64 s.1,.int .u64 s.2.1,.int .u64 s.2.2.1,.int .u64 s.2.2.2]
def PY(a b:Int):Int:=IntKind.wrap .u64 (a+b)
def Qg(s:Q4):Q4:=(PY s.1 s.2.1,s.2)
def QA(s:Q4):Q4:=(s.1,df (CF s.2.1 13) s.1,s.2.2)
def Rv(s:Q4):Q4:=(CF s.1 32,s.2)
def Sb(s:Q4):Q4:=(s.1,s.2.1,PY s.2.2.1 s.2.2.2,s.2.2.2)
def Th(s:Q4):Q4:=(s.1,s.2.1,s.2.2.1,df (CF s.2.2.2 16) s.2.2.1)
def TD(s:Q4):Q4:=(PY s.1 s.2.2.2,s.2)
def T7(s:Q4):Q4:=(s.1,s.2.1,s.2.2.1,df (CF s.2.2.2 21) s.1)
def Ug(s:Q4):Q4:=(s.1,s.2.1,PY s.2.2.1 s.2.1,s.2.2.2)
def s09(s:Q4):Q4:=(s.1,df (CF s.2.1 17) s.2.2.1,s.2.2)
def s10(s:Q4):Q4:=(s.1,s.2.1,CF s.2.2.1 32,s.2.2.2)
def jO(s:Q4):Q4:=s10 (s09 (Ug (T7 (TD (Th (Sb (Rv (QA (Qg s)))))))))
def nC:Nat→Q4→Q4
 |0,s=>s
 |n+1,s=>nC n (jO s)
theorem oD{h:ad}{b i:Nat}{t:TypeId}{s s':Q4}{v:Value}{k:ad→Prop}(g:h[b]? =some (.cells (q4 s) t (0,0))) (e:(q4 s).setIfInBounds i v=q4 s')
  (f:∀a,a[b]? =some (.cells (q4 s') t (0,0))→Upd (· =b) h a→k a):At (hset h ⟨b,i,none⟩ v) k:=
 ui g fun a c d=>f a (e▸c) d
theorem ER{n:Nat}(Y:n≤100){h:ad}{b:Nat}{t:TypeId}{s:Q4}(B:h[b]? =some (.cells (q4 s) t (0,0))) {K:Unit→ad→Prop}
  (N:∀q,q[b]? =some (.cells (q4 (nC n s)) t (0,0))→Upd (· =b) h q→K () q):HC PG ig [.pointer (some ⟨b,0,none⟩),.int .i64 n] [] K h:=by
 refine xP _ _ ?_;unfold qG bQ dK cV l9;refine LoopP.ghost (fun(g:Nat×Q4) (M:Int) q=>M=(g.1:Int)∧g.1≤n∧q[b]? =some (.cells (q4 g.2) t (0,0))∧Upd (· =b) h q∧nC (n-g.1) g.2=nC n s) (fun g=>n-g.1) (0,s) ⟨rfl,Nat.zero_le _,B,Upd.refl _ _,rfl⟩ ?_
 rintro I ⟨i,s1⟩ M q ⟨P,hi,a,O,x⟩ Q;simp only at P hi a x;subst P;refine aG (fun u=>?_) fun T=>?_
 ·have u:i<n:=by omega
  have c:∀{h:ad} {s:Q4} {i:Nat},h[b]? =some (.cells (q4 s) t (0,0))→aM h ⟨b,0+i,none⟩=(q4 s)[i]?:=fun B=>by rw[aE];exact bj B
  have w:∀{h:ad} {s:Q4} {i:Nat},h[b]? =some (.cells (q4 s) t (0,0))→i<4→Wr h ⟨b,0+i,none⟩:=fun B hi=>by rw[aE];exact ia B hi
  simp only[show((0:Int)).toNat*1=0 from rfl,show((1:Int)).toNat*1=1 from rfl,show((2:Int)).toNat*1=2 from rfl,show((3:Int)).toNat*1=3 from rfl]
  refine⟨_,rfl,by decide,_,c (i:=0) a,_,rfl,by decide,_,c (i:=1) a,_,rfl,by decide,w (i:=0) a (by decide),oD (s':=Qg s1) a rfl fun X e H=>?_⟩
  refine⟨_,rfl,by decide,_,c (i:=1) e,_,rfl,by decide,_,c (i:=0) e,_,rfl,zX ⟨c (i:=0) e,by decide,w (i:=1) e (by decide),oD (s':=QA (Qg s1)) e rfl fun Z v D=>?_⟩⟩
  refine⟨_,rfl,by decide,_,c (i:=0) v,_,rfl,zX ⟨by decide,w (i:=0) v (by decide),oD (s':=Rv (QA (Qg s1))) v rfl fun h4 o J=>?_⟩⟩
  refine⟨_,rfl,by decide,_,c (i:=2) o,_,rfl,by decide,_,c (i:=3) o,_,rfl,by decide,w (i:=2) o (by decide),oD (s':=Sb (Rv (QA (Qg s1)))) o rfl fun W j C=>?_⟩
  refine⟨_,rfl,by decide,_,c (i:=3) j,_,rfl,by decide,_,c (i:=2) j,_,rfl,zX ⟨c (i:=2) j,by decide,w (i:=3) j (by decide),oD (s':=Th (Sb (Rv (QA (Qg s1))))) j rfl fun V m E=>?_⟩⟩
  refine⟨_,rfl,by decide,_,c (i:=0) m,_,rfl,by decide,_,c (i:=3) m,_,rfl,by decide,w (i:=0) m (by decide),oD (s':=TD (Th (Sb (Rv (QA (Qg s1)))))) m rfl fun h7 f G=>?_⟩
  refine⟨_,rfl,by decide,_,c (i:=3) f,_,rfl,by decide,_,c (i:=0) f,_,rfl,zX ⟨c (i:=0) f,by decide,w (i:=3) f (by decide),oD (s':=T7 (TD (Th (Sb (Rv (QA (Qg s1))))))) f rfl fun h8 p F=>?_⟩⟩
  refine⟨_,rfl,by decide,_,c (i:=2) p,_,rfl,by decide,_,c (i:=1) p,_,rfl,by decide,w (i:=2) p (by decide),oD (s':=Ug (T7 (TD (Th (Sb (Rv (QA (Qg s1)))))))) p rfl fun h9 d L=>?_⟩
  refine⟨_,rfl,by decide,_,c (i:=1) d,_,rfl,by decide,_,c (i:=2) d,_,rfl,zX ⟨c (i:=2) d,by decide,w (i:=1) d (by decide),oD (s':=s09 (Ug (T7 (TD (Th (Sb (Rv (QA (Qg s1))))))))) d rfl fun S k A=>?_⟩⟩
  refine⟨_,rfl,by decide,_,c (i:=2) k,_,rfl,zX ⟨by decide,w (i:=2) k (by decide),oD (s':=jO s1) k rfl fun R y z=>?_⟩⟩
  rw[cz u (by omega)];refine Q (i+1,jO s1) _ _ ⟨rfl,u,y,O.tr (H.tr (D.tr (J.tr (C.tr (E.tr (G.tr (F.tr (L.tr (A.tr z))))))))),?_⟩ (by simp only;omega);simp only;rw[←x,show n-i=(n-(i+1))+1 by omega];rfl
 ·obtain rfl:i=n:=by omega
  rw[Nat.sub_self]at x;have x:s1=nC i s:=x;rw[←x]at N;exact N _ a O
end Go.Proofs
namespace Go.Proofs
open Go Go.Lift Go.Conc Go.RowKit
theorem wa{w:World}{b i:Nat}{c:Array Value}{t:TypeId}{v:Value}(h:w.heap[b]? =some (.cells c t (0,0))) (hv:c[i]? =some v):w.cell? ⟨b,i,none⟩=some v:=by
 simp only[World.cell?,h];exact hv
theorem Nn{w:World}{b i:Nat}{c:Array Value}{t:TypeId}(h:w.heap[b]? =some (.cells c t (0,0))):w.frozen? ⟨b,i,none⟩=false:=by
 simp only[World.frozen?,h];simp
set_option maxRecDepth 100000 in
theorem MH{w:World}{pb cb cap s r:Nat}{i:Int}{a:List Value}(d:w.heap[pb]? =some (.cells #[.chan (some cb)] 130 (0,0))) (hc:w.heap[cb]? =some (.chan cap (Value.int .i64 i::a).toArray false s r false)):
  Calls Tryz.prog 33 #[.pointer (some ⟨pb,0,none⟩)] w fun e w'=>e=.returned (.tuple #[.pointer (some ⟨w.heap.size,0,none⟩),.int .i64 0])∧w'=((w.setChan cb cap a.toArray false s (r+1) false).alloc (.cells #[.pointer (some ⟨pb,0,none⟩),.int .i64 i,.bool true] 140 (0,0))):=by
 refine calls_of_loneTo fun cs=>?_
 have e:Frame.enter Tryz.prog 33 #[.pointer (some ⟨pb,0,none⟩)] .normal=(base 33).at ⟨#[.pointer (some ⟨pb,0,none⟩),undef,undef,undef,undef,undef,undef,undef,undef,undef,undef,undef,undef,undef,undef,undef,undef,undef,undef],[]⟩ [.code (Tryz.f33.body.getD .skip)]:=by
  simp[Frame.enter,Frame.at,Tryz.func33,base,Tryz.f33]
 rw[e];have aM:=wa d (i:=0) rfl;have b:(Value.int .i64 i::a).toArray.extract 1 (Value.int .i64 i::a).toArray.size=a.toArray:=by simp
 refine LoneTo.goes (n:=22) ?_;simp only[Tryz.f33,oO];s_c stepG_seq
 s_reg
 s_op
 s_op
 s_c stepG_region_end
 s_c stepG_seq
 s_c stepG_seq
 s_reg
 s_op
 s_op
 s_c stepG_region_end
 s_cond false
 s_c stepG_skip
 s_c stepG_seq
 s_reg
 s_op
 s_op
 s_op
 s_op
 s_c stepG_region_end
 s_c stepG_seq
 s_reg
 s_stop
 refine LoneTo.step (step_lone_select_recv_buf (c:=cb) (z:=.int .i64 0) (stepG_comm (cases:= #[rcase cb (.int .i64 0)]) (blocking:=false) (shape:=.select) (w':=w) rfl rfl (by decide) (by simp[go_sem,execOp,rcase,Act.eval])) hc (by simp)) ?_;rw[b];rw[Frame.finish_at];walk_nrm
 refine LoneTo.goes (n:=20) ?_;s_op
 s_op
 s_c stepG_region_end
 s_c stepG_block
 s_cond true
 s_c stepG_seq
 s_reg
 s_op
 s_op
 s_c stepG_region_end
 s_c stepG_seq
 s_reg
 s_op
 s_op
 s_op
 s_op
 s_op
 s_op
 s_c stepG_region_end
 s_c stepG_ret'
 s_stop
 refine LoneTo.done ⟨.returned (.tuple #[.pointer (some ⟨w.heap.size,0,none⟩),.int .i64 0]),_,rfl,⟨rfl,rfl⟩,rfl,rfl,rfl,rfl,_,Tryz.func33,by simp[results,Tryz.f33,Frame.at,size_setChan]⟩
theorem mkc(w:World)(n:Nat)(h:n≤4096):(Instr.makeChan 128 (.int .i64 n)).run Tryz.prog w=.ok (.chan (some w.heap.size)) (w.alloc (.chan n #[] false 0 0 false)):=by
 have c:Tryz.prog.underlying 128=some (.chan .both 3):=by kernel_rfl
 have a:(Tryz.prog.info? 3).map (·.bytes)=some 8:=by kernel_rfl
 obtain⟨i,hi,b⟩:=Option.map_eq_some_iff.1 a;exact run_makeChan (P:=Tryz.prog) (w:=w) c hi .i64 n (by omega) (by rw[b];omega)
noncomputable abbrev B2:Code:=match Tryz.f32.body with|some (.seq _ (.seq _ (.seq _ (.seq (.seq _ (.block _ (.loop c))) _))))=>c|_=>.skip
noncomputable abbrev Gq:Code:=match Tryz.f32.body with|some (.seq _ (.seq _ (.seq _ (.seq _ c))))=>c|_=>.skip
set_option maxRecDepth 100000 in
set_option maxHeartbeats 4000000 in
theorem OX{n pb cb:Nat}{Q:Goroutine→World→Prop}{cs:List Frame}(L:n≤4096)(C:pb≠cb):∀(m i:Nat) (u e d f k q o g b p:Value) (ids:List Value) (s r:Nat) (w:World),i+m=n→ids.length=i→w.heap[pb]? =some (.cells #[.chan (some cb)] 130 (0,0))→w.heap[cb]? =some (.chan n ids.toArray false s r false)→
  (∀(u e d f k q o g b p:Value) (a:List Value) (s' y:Nat) (w':World),a=ids++(cK m).map (fun j=>Value.int .i64 ((i+j:Nat)+1:Int))→(w'=w∨w'=w.setChan cb n a.toArray false s' y false)→w'.heap[cb]? =some (.chan n a.toArray false s' y false)→LoneTo Tryz.prog Q (G ((base 32).at ⟨#[.int .i64 n,undef,.pointer none,.int .i64 0,.pointer (some ⟨pb,0,none⟩),u,.int .i64 n,.bool false,.bool false,.int .i64 n,.bool false,.bool false,.int .i64 n,.chan (some cb),.agg #[.chan (some cb)],.pointer (some ⟨pb,0,none⟩),.int .i64 n,.int .i64 n,e,d,f,k,q,o,g,b,p,undef],[]⟩ [.code Gq]) cs) w')→
  LoneTo Tryz.prog Q (G ((base 32).at ⟨#[.int .i64 n,undef,.pointer none,.int .i64 0,.pointer (some ⟨pb,0,none⟩),u,.int .i64 n,.bool false,.bool false,.int .i64 n,.bool false,.bool false,.int .i64 n,.chan (some cb),.agg #[.chan (some cb)],.pointer (some ⟨pb,0,none⟩),.int .i64 n,.int .i64 i,e,d,f,k,q,o,g,b,p,undef],[]⟩ [.code B2,.inLoop B2,.inBlock 0,.code Gq]) cs) w:=by
 intro m;induction m with
 |zero=>
  intro i u e d f k q o g b p ids s r w t D A hc B;have t:i=n:=by omega
  subst t;have z:¬((i:Int)<(i:Int)):=by omega
  refine LoneTo.goes (n:=9) ?_;simp only[B2,Tryz.f32];s_c stepG_seq
  s_reg
  s_op
  s_c stepG_region_end
  s_c stepG_seq
  s_cond false
  s_exit
  s_stop
  exact B _ _ _ _ _ _ _ _ _ _ ids s r w (by simp) (.inl rfl) hc
 |succ m ih=>
  intro i u e d f k q o g b p ids s r w t D A hc B;have z:((i:Int)<(n:Int)):=by omega
  have aM:=wa A (i:=0) rfl;have E:IntKind.wrap .i64 ((i:Int)+1)=((i+1:Nat):Int):=by rw[oq (by omega)];omega
  refine LoneTo.goes (n:=21) ?_;simp only[B2,Tryz.f32];s_c stepG_seq
  s_reg
  s_op
  s_c stepG_region_end
  s_c stepG_seq
  s_cond true
  s_c stepG_skip
  s_c stepG_seq
  s_c stepG_block
  s_c stepG_seq
  s_reg
  s_op
  s_op
  s_c stepG_region_end
  s_reg
  s_op
  s_op
  s_op
  s_op
  s_op
  s_op
  s_stop
  refine LoneTo.step (step_lone_send_room (c:=cb) (cap:=n) (buf:=ids.toArray) (s:=s) (r:=r) (tm:=false) (stepG_comm (cases:= #[scase cb (.int .i64 ((i:Int)+1)) (.tuple #[])]) (blocking:=true) (shape:=.send) (w':=w) rfl rfl (by decide) (by simp[execOp,scase,Act.eval])) hc (by simp[D];omega)) ?_;rw[Frame.finish_at];walk_nrm
  have hz:cb<w.heap.size:=(Array.getElem?_eq_some_iff.1 hc).1;refine LoneTo.goes (n:=7) ?_;s_c stepG_region_end
  s_c stepG_inBlock
  s_reg
  s_op
  s_op
  s_c stepG_region_end
  s_c stepG_inLoop
  s_stop
  have H:((i:Int)+1)=((i+1:Nat):Int):=by omega
  rw[H];refine ih (i+1) _ _ _ _ _ _ _ _ _ _ (ids++ [Value.int .i64 ((i+1:Nat):Int)]) (s+1) r (w.setChan cb n (ids++ [Value.int .i64 ((i+1:Nat):Int)]).toArray false (s+1) r false) (by omega) (by simp[D]) ?_ (heap_setChan _ _ _ _ _ _ _ _ hz) fun u e d f k q o g b p a s' y w' J v x=>B u e d f k q o g b p a s' y w' ?_ (.inr ?_) x
  ·simp only[World.setChan,Array.getElem?_setIfInBounds]
   rw[if_neg (Ne.symm C)];exact A
  ·rw[J,List.range_succ_eq_map]
   simp[Nat.add_comm,Nat.add_left_comm,Function.comp_def]
  ·rcases v with v|v
   ·subst v
    rw[heap_setChan _ _ _ _ _ _ _ _ hz]at x;simp only[Option.some.injEq,Obj.chan.injEq]at x;obtain⟨_,F,_,K,I,_⟩:=x;rw[F,K,I]
   ·rw[v];simp[World.setChan]
set_option maxRecDepth 100000 in
set_option maxHeartbeats 4000000 in
theorem OW{n:Nat}{w:World}(z:1≤n)(a:n≤4096):Calls Tryz.prog 32 #[.int .i64 n] w fun e w'=>e=.returned (.tuple #[.pointer (some ⟨w.heap.size+1,0,none⟩),.int .i64 0])∧∃(ids:List Value) (s r:Nat),ids=(cK n).map (fun j=>Value.int .i64 ((0+j:Nat)+1:Int))∧w'.heap[w.heap.size]? =some (.chan n ids.toArray false s r false)∧(w'=(w.alloc (.chan n #[] false 0 0 false)).alloc (.cells #[.chan (some w.heap.size)] 130 (0,0))∨w'=((w.alloc (.chan n #[] false 0 0 false)).alloc (.cells #[.chan (some w.heap.size)] 130 (0,0))).setChan w.heap.size n ids.toArray false s r false):=by
 refine calls_of_loneTo fun cs=>?_
 have e:Frame.enter Tryz.prog 32 #[.int .i64 n] .normal=(base 32).at ⟨#[.int .i64 n,undef,undef,undef,undef,undef,undef,undef,undef,undef,undef,undef,undef,undef,undef,undef,undef,undef,undef,undef,undef,undef,undef,undef,undef,undef,undef,undef],[]⟩ [.code (Tryz.f32.body.getD .skip)]:=by
  simp[Frame.enter,Frame.at,Tryz.func32,base,Tryz.f32]
 rw[e];have c:=fun w=>mkc w n a
 have c1:¬((n:Int)<1):=by omega
 have c2:¬(4096<(n:Int)):=by omega
 refine LoneTo.goes (n:=33) ?_;simp only[Tryz.f32,oO];s_c stepG_seq
 s_reg
 s_op
 s_op
 s_c stepG_region_end
 s_c stepG_seq
 s_c stepG_seq
 s_reg
 s_op
 s_op
 s_op
 s_op
 s_op
 s_op
 s_c stepG_region_end
 s_cond false
 s_c stepG_skip
 s_c stepG_seq
 s_reg
 s_op
 s_op
 s_op
 s_op
 s_op
 s_c stepG_region_end
 s_c stepG_seq
 s_c stepG_seq
 s_reg
 s_op
 s_op
 s_c stepG_region_end
 s_c stepG_block
 s_c stepG_loop
 s_stop
 have d:((w.alloc (.chan n #[] false 0 0 false)).alloc (.cells #[.chan (some w.heap.size)] 130 (0,0))).heap[w.heap.size+1]? =some (.cells #[.chan (some w.heap.size)] 130 (0,0)):=by
  have:=heap_alloc_new (w.alloc (.chan n #[] false 0 0 false)) (.cells #[.chan (some w.heap.size)] 130 (0,0));simpa using this
 have k:((w.alloc (.chan n #[] false 0 0 false)).alloc (.cells #[.chan (some w.heap.size)] 130 (0,0))).heap[w.heap.size]? =some (.chan n #[] false 0 0 false):=by
  show((w.heap.push (.chan n #[] false 0 0 false)).push (.cells #[.chan (some w.heap.size)] 130 (0,0)))[w.heap.size]? =_
  simp[Array.getElem?_push]
 refine OX a (by omega) n 0 _ _ _ _ _ _ _ _ _ _ [] 0 0 _ (by omega) rfl d k fun y f q i p b t o m g ids s r w' u v x=>?_
 refine LoneTo.goes (n:=7) ?_;simp only[Gq,Tryz.f32];s_c stepG_seq
 s_reg
 s_op
 s_op
 s_op
 s_c stepG_region_end
 s_c stepG_ret'
 s_stop
 refine LoneTo.done ⟨.returned (.tuple #[.pointer (some ⟨w.heap.size+1,0,none⟩),.int .i64 0]),_,rfl,⟨rfl,ids,s,r,by simpa[cK]using u,x,v⟩,rfl,rfl,rfl,rfl,_,Tryz.func32,by simp[results,Tryz.f32,Frame.at]⟩
theorem fx{md:Region.Mode}{ops:Array Oper}{fuel t:Nat}{listed:Array Bool}{rs:List Nat}(d:Region.ready md ops listed=rs)(b:rs≠[]):∃i∈rs,∃t',Region.linearise.go md ops (fuel+1) t listed []=i::Region.linearise.go md ops fuel t' (listed.setIfInBounds i true) []:=by
 subst d;simp only[Region.linearise.go];change∃i∈Region.ready md ops listed,∃t',(match(Region.ready md ops listed)[t%(Region.ready md ops listed).length]? with
  |some i=>Region.linearise.go md ops fuel (t/(Region.ready md ops listed).length) (listed.setIfInBounds i true) [i]
  |none=> [].reverse)=i::Region.linearise.go md ops fuel t' (listed.setIfInBounds i true) []
 have c:0<(Region.ready md ops listed).length:=List.length_pos_iff.2 b;have a:t%(Region.ready md ops listed).length<(Region.ready md ops listed).length:=Nat.mod_lt _ c;rw[List.getElem?_eq_getElem a];refine⟨_,List.getElem_mem a,t/(Region.ready md ops listed).length,?_⟩;simp only[];rw[linearise_go_acc];rfl
noncomputable abbrev aF:Array Oper:=match Tryz.f37.body with|some (.seq _ (.seq _ (.seq _ (.seq (.region _ o _) _))))=>o|_=> #[]
section
variable {pb tb cb:Nat} {id:Int} {u2 u3 u4 u5 u6 u7 u8 u9 u10 u11 u12 u13 u14 u15 u16 u17 u18 u19 u20 u21 u22:Value} {Q:Goroutine→World→Prop} {cs:List Frame} {kk:List Item} {w:World}
set_option maxRecDepth 100000
theorem Pe(c:w.cell? ⟨pb,0,none⟩=some (.chan (some cb)))(d:w.cell? ⟨tb,1,none⟩=some (.int .i64 id))(a:∀t,LoneTo Tryz.prog Q (G ((base 37).at ⟨#[.pointer (some ⟨pb,0,none⟩),.pointer (some ⟨tb,0,none⟩),u2,u3,u4,u5,u6,u7,u8,u9,u10,u11,u12,u13,u14,u15,u16,u17,u18,u19,u20,u21,u22,.pointer (some ⟨pb,0,none⟩),.pointer (some ⟨pb,0,none⟩),.pointer (some ⟨pb,0,none⟩),.chan (some cb),.pointer (some ⟨tb,0,none⟩),.pointer (some ⟨tb,0,none⟩),.pointer (some ⟨tb,1,none⟩),.int .i64 id],[]⟩ (.inRegion aF (Region.linearise.go .any aF 1 t #[true,true,true,true,true,true,true,true,false] [])::kk)) cs) w)(t:Nat):LoneTo Tryz.prog Q (G ((base 37).at ⟨#[.pointer (some ⟨pb,0,none⟩),.pointer (some ⟨tb,0,none⟩),u2,u3,u4,u5,u6,u7,u8,u9,u10,u11,u12,u13,u14,u15,u16,u17,u18,u19,u20,u21,u22,.pointer (some ⟨pb,0,none⟩),.pointer (some ⟨pb,0,none⟩),.pointer (some ⟨pb,0,none⟩),.chan (some cb),.pointer (some ⟨tb,0,none⟩),.pointer (some ⟨tb,0,none⟩),.pointer (some ⟨tb,1,none⟩),undef],[]⟩ (.inRegion aF (Region.linearise.go .any aF 2 t #[true,true,true,true,true,true,true,false,false] [])::kk)) cs) w:=by
 obtain⟨i,hi,b,e⟩:=fx (md:=.any) (ops:=aF) (fuel:=1) (t:=t) (listed:= #[true,true,true,true,true,true,true,false,false]) (rs:= [7]) (by kernel_rfl) (by simp);rw[e];rw[aq.1 hi];refine LoneTo.goes (n:=1) ?_;simp only[aF,Tryz.f37];s_op
 s_stop
 exact a b
theorem Ph(c:w.cell? ⟨pb,0,none⟩=some (.chan (some cb)))(d:w.cell? ⟨tb,1,none⟩=some (.int .i64 id))(a:∀t,LoneTo Tryz.prog Q (G ((base 37).at ⟨#[.pointer (some ⟨pb,0,none⟩),.pointer (some ⟨tb,0,none⟩),u2,u3,u4,u5,u6,u7,u8,u9,u10,u11,u12,u13,u14,u15,u16,u17,u18,u19,u20,u21,u22,.pointer (some ⟨pb,0,none⟩),.pointer (some ⟨pb,0,none⟩),.pointer (some ⟨pb,0,none⟩),.chan (some cb),.pointer (some ⟨tb,0,none⟩),.pointer (some ⟨tb,0,none⟩),.pointer (some ⟨tb,1,none⟩),.int .i64 id],[]⟩ (.inRegion aF (Region.linearise.go .any aF 1 t #[true,true,true,true,true,true,true,true,false] [])::kk)) cs) w)(t:Nat):LoneTo Tryz.prog Q (G ((base 37).at ⟨#[.pointer (some ⟨pb,0,none⟩),.pointer (some ⟨tb,0,none⟩),u2,u3,u4,u5,u6,u7,u8,u9,u10,u11,u12,u13,u14,u15,u16,u17,u18,u19,u20,u21,u22,.pointer (some ⟨pb,0,none⟩),.pointer (some ⟨pb,0,none⟩),.pointer (some ⟨pb,0,none⟩),undef,.pointer (some ⟨tb,0,none⟩),.pointer (some ⟨tb,0,none⟩),.pointer (some ⟨tb,1,none⟩),.int .i64 id],[]⟩ (.inRegion aF (Region.linearise.go .any aF 2 t #[true,true,true,false,true,true,true,true,false] [])::kk)) cs) w:=by
 obtain⟨i,hi,b,e⟩:=fx (md:=.any) (ops:=aF) (fuel:=1) (t:=t) (listed:= #[true,true,true,false,true,true,true,true,false]) (rs:= [3]) (by kernel_rfl) (by simp);rw[e];rw[aq.1 hi];refine LoneTo.goes (n:=1) ?_;simp only[aF,Tryz.f37];s_op
 s_stop
 exact a b
theorem Pf(b:w.cell? ⟨pb,0,none⟩=some (.chan (some cb)))(c:w.cell? ⟨tb,1,none⟩=some (.int .i64 id))(a:∀t,LoneTo Tryz.prog Q (G ((base 37).at ⟨#[.pointer (some ⟨pb,0,none⟩),.pointer (some ⟨tb,0,none⟩),u2,u3,u4,u5,u6,u7,u8,u9,u10,u11,u12,u13,u14,u15,u16,u17,u18,u19,u20,u21,u22,.pointer (some ⟨pb,0,none⟩),.pointer (some ⟨pb,0,none⟩),.pointer (some ⟨pb,0,none⟩),.chan (some cb),.pointer (some ⟨tb,0,none⟩),.pointer (some ⟨tb,0,none⟩),.pointer (some ⟨tb,1,none⟩),.int .i64 id],[]⟩ (.inRegion aF (Region.linearise.go .any aF 1 t #[true,true,true,true,true,true,true,true,false] [])::kk)) cs) w)(t:Nat):LoneTo Tryz.prog Q (G ((base 37).at ⟨#[.pointer (some ⟨pb,0,none⟩),.pointer (some ⟨tb,0,none⟩),u2,u3,u4,u5,u6,u7,u8,u9,u10,u11,u12,u13,u14,u15,u16,u17,u18,u19,u20,u21,u22,.pointer (some ⟨pb,0,none⟩),.pointer (some ⟨pb,0,none⟩),.pointer (some ⟨pb,0,none⟩),.chan (some cb),.pointer (some ⟨tb,0,none⟩),.pointer (some ⟨tb,0,none⟩),undef,undef],[]⟩ (.inRegion aF (Region.linearise.go .any aF 3 t #[true,true,true,true,true,true,false,false,false] [])::kk)) cs) w:=by
 obtain⟨i,hi,d,e⟩:=fx (md:=.any) (ops:=aF) (fuel:=2) (t:=t) (listed:= #[true,true,true,true,true,true,false,false,false]) (rs:= [6]) (by kernel_rfl) (by simp);rw[e];rw[aq.1 hi];refine LoneTo.goes (n:=1) ?_;simp only[aF,Tryz.f37];s_op
 s_stop
 exact Pe b c a d
theorem Pi(b:w.cell? ⟨pb,0,none⟩=some (.chan (some cb)))(c:w.cell? ⟨tb,1,none⟩=some (.int .i64 id))(a:∀t,LoneTo Tryz.prog Q (G ((base 37).at ⟨#[.pointer (some ⟨pb,0,none⟩),.pointer (some ⟨tb,0,none⟩),u2,u3,u4,u5,u6,u7,u8,u9,u10,u11,u12,u13,u14,u15,u16,u17,u18,u19,u20,u21,u22,.pointer (some ⟨pb,0,none⟩),.pointer (some ⟨pb,0,none⟩),.pointer (some ⟨pb,0,none⟩),.chan (some cb),.pointer (some ⟨tb,0,none⟩),.pointer (some ⟨tb,0,none⟩),.pointer (some ⟨tb,1,none⟩),.int .i64 id],[]⟩ (.inRegion aF (Region.linearise.go .any aF 1 t #[true,true,true,true,true,true,true,true,false] [])::kk)) cs) w)(t:Nat):LoneTo Tryz.prog Q (G ((base 37).at ⟨#[.pointer (some ⟨pb,0,none⟩),.pointer (some ⟨tb,0,none⟩),u2,u3,u4,u5,u6,u7,u8,u9,u10,u11,u12,u13,u14,u15,u16,u17,u18,u19,u20,u21,u22,.pointer (some ⟨pb,0,none⟩),.pointer (some ⟨pb,0,none⟩),.pointer (some ⟨pb,0,none⟩),undef,.pointer (some ⟨tb,0,none⟩),.pointer (some ⟨tb,0,none⟩),.pointer (some ⟨tb,1,none⟩),undef],[]⟩ (.inRegion aF (Region.linearise.go .any aF 3 t #[true,true,true,false,true,true,true,false,false] [])::kk)) cs) w:=by
 obtain⟨i,hi,d,e⟩:=fx (md:=.any) (ops:=aF) (fuel:=2) (t:=t) (listed:= #[true,true,true,false,true,true,true,false,false]) (rs:= [3,7]) (by kernel_rfl) (by simp);rw[e];rcases au.1 hi with rfl|hi
 ·skip
  refine LoneTo.goes (n:=1) ?_;simp only[aF,Tryz.f37];s_op
  s_stop
  exact Pe b c a d
 ·rw[aq.1 hi]
  refine LoneTo.goes (n:=1) ?_;simp only[aF,Tryz.f37];s_op
  s_stop
  exact Ph b c a d
theorem Pl(b:w.cell? ⟨pb,0,none⟩=some (.chan (some cb)))(c:w.cell? ⟨tb,1,none⟩=some (.int .i64 id))(a:∀t,LoneTo Tryz.prog Q (G ((base 37).at ⟨#[.pointer (some ⟨pb,0,none⟩),.pointer (some ⟨tb,0,none⟩),u2,u3,u4,u5,u6,u7,u8,u9,u10,u11,u12,u13,u14,u15,u16,u17,u18,u19,u20,u21,u22,.pointer (some ⟨pb,0,none⟩),.pointer (some ⟨pb,0,none⟩),.pointer (some ⟨pb,0,none⟩),.chan (some cb),.pointer (some ⟨tb,0,none⟩),.pointer (some ⟨tb,0,none⟩),.pointer (some ⟨tb,1,none⟩),.int .i64 id],[]⟩ (.inRegion aF (Region.linearise.go .any aF 1 t #[true,true,true,true,true,true,true,true,false] [])::kk)) cs) w)(t:Nat):LoneTo Tryz.prog Q (G ((base 37).at ⟨#[.pointer (some ⟨pb,0,none⟩),.pointer (some ⟨tb,0,none⟩),u2,u3,u4,u5,u6,u7,u8,u9,u10,u11,u12,u13,u14,u15,u16,u17,u18,u19,u20,u21,u22,.pointer (some ⟨pb,0,none⟩),.pointer (some ⟨pb,0,none⟩),undef,undef,.pointer (some ⟨tb,0,none⟩),.pointer (some ⟨tb,0,none⟩),.pointer (some ⟨tb,1,none⟩),.int .i64 id],[]⟩ (.inRegion aF (Region.linearise.go .any aF 3 t #[true,true,false,false,true,true,true,true,false] [])::kk)) cs) w:=by
 obtain⟨i,hi,d,e⟩:=fx (md:=.any) (ops:=aF) (fuel:=2) (t:=t) (listed:= #[true,true,false,false,true,true,true,true,false]) (rs:= [2]) (by kernel_rfl) (by simp);rw[e];rw[aq.1 hi];refine LoneTo.goes (n:=1) ?_;simp only[aF,Tryz.f37];s_op
 s_stop
 exact Ph b c a d
theorem Pg(b:w.cell? ⟨pb,0,none⟩=some (.chan (some cb)))(c:w.cell? ⟨tb,1,none⟩=some (.int .i64 id))(a:∀t,LoneTo Tryz.prog Q (G ((base 37).at ⟨#[.pointer (some ⟨pb,0,none⟩),.pointer (some ⟨tb,0,none⟩),u2,u3,u4,u5,u6,u7,u8,u9,u10,u11,u12,u13,u14,u15,u16,u17,u18,u19,u20,u21,u22,.pointer (some ⟨pb,0,none⟩),.pointer (some ⟨pb,0,none⟩),.pointer (some ⟨pb,0,none⟩),.chan (some cb),.pointer (some ⟨tb,0,none⟩),.pointer (some ⟨tb,0,none⟩),.pointer (some ⟨tb,1,none⟩),.int .i64 id],[]⟩ (.inRegion aF (Region.linearise.go .any aF 1 t #[true,true,true,true,true,true,true,true,false] [])::kk)) cs) w)(t:Nat):LoneTo Tryz.prog Q (G ((base 37).at ⟨#[.pointer (some ⟨pb,0,none⟩),.pointer (some ⟨tb,0,none⟩),u2,u3,u4,u5,u6,u7,u8,u9,u10,u11,u12,u13,u14,u15,u16,u17,u18,u19,u20,u21,u22,.pointer (some ⟨pb,0,none⟩),.pointer (some ⟨pb,0,none⟩),.pointer (some ⟨pb,0,none⟩),.chan (some cb),.pointer (some ⟨tb,0,none⟩),undef,undef,undef],[]⟩ (.inRegion aF (Region.linearise.go .any aF 4 t #[true,true,true,true,true,false,false,false,false] [])::kk)) cs) w:=by
 obtain⟨i,hi,d,e⟩:=fx (md:=.any) (ops:=aF) (fuel:=3) (t:=t) (listed:= #[true,true,true,true,true,false,false,false,false]) (rs:= [5]) (by kernel_rfl) (by simp);rw[e];rw[aq.1 hi];refine LoneTo.goes (n:=1) ?_;simp only[aF,Tryz.f37];s_op
 s_stop
 exact Pf b c a d
theorem Pj(b:w.cell? ⟨pb,0,none⟩=some (.chan (some cb)))(c:w.cell? ⟨tb,1,none⟩=some (.int .i64 id))(a:∀t,LoneTo Tryz.prog Q (G ((base 37).at ⟨#[.pointer (some ⟨pb,0,none⟩),.pointer (some ⟨tb,0,none⟩),u2,u3,u4,u5,u6,u7,u8,u9,u10,u11,u12,u13,u14,u15,u16,u17,u18,u19,u20,u21,u22,.pointer (some ⟨pb,0,none⟩),.pointer (some ⟨pb,0,none⟩),.pointer (some ⟨pb,0,none⟩),.chan (some cb),.pointer (some ⟨tb,0,none⟩),.pointer (some ⟨tb,0,none⟩),.pointer (some ⟨tb,1,none⟩),.int .i64 id],[]⟩ (.inRegion aF (Region.linearise.go .any aF 1 t #[true,true,true,true,true,true,true,true,false] [])::kk)) cs) w)(t:Nat):LoneTo Tryz.prog Q (G ((base 37).at ⟨#[.pointer (some ⟨pb,0,none⟩),.pointer (some ⟨tb,0,none⟩),u2,u3,u4,u5,u6,u7,u8,u9,u10,u11,u12,u13,u14,u15,u16,u17,u18,u19,u20,u21,u22,.pointer (some ⟨pb,0,none⟩),.pointer (some ⟨pb,0,none⟩),.pointer (some ⟨pb,0,none⟩),undef,.pointer (some ⟨tb,0,none⟩),.pointer (some ⟨tb,0,none⟩),undef,undef],[]⟩ (.inRegion aF (Region.linearise.go .any aF 4 t #[true,true,true,false,true,true,false,false,false] [])::kk)) cs) w:=by
 obtain⟨i,hi,d,e⟩:=fx (md:=.any) (ops:=aF) (fuel:=3) (t:=t) (listed:= #[true,true,true,false,true,true,false,false,false]) (rs:= [3,6]) (by kernel_rfl) (by simp);rw[e];rcases au.1 hi with rfl|hi
 ·skip
  refine LoneTo.goes (n:=1) ?_;simp only[aF,Tryz.f37];s_op
  s_stop
  exact Pf b c a d
 ·rw[aq.1 hi]
  refine LoneTo.goes (n:=1) ?_;simp only[aF,Tryz.f37];s_op
  s_stop
  exact Pi b c a d
theorem Pm(b:w.cell? ⟨pb,0,none⟩=some (.chan (some cb)))(c:w.cell? ⟨tb,1,none⟩=some (.int .i64 id))(a:∀t,LoneTo Tryz.prog Q (G ((base 37).at ⟨#[.pointer (some ⟨pb,0,none⟩),.pointer (some ⟨tb,0,none⟩),u2,u3,u4,u5,u6,u7,u8,u9,u10,u11,u12,u13,u14,u15,u16,u17,u18,u19,u20,u21,u22,.pointer (some ⟨pb,0,none⟩),.pointer (some ⟨pb,0,none⟩),.pointer (some ⟨pb,0,none⟩),.chan (some cb),.pointer (some ⟨tb,0,none⟩),.pointer (some ⟨tb,0,none⟩),.pointer (some ⟨tb,1,none⟩),.int .i64 id],[]⟩ (.inRegion aF (Region.linearise.go .any aF 1 t #[true,true,true,true,true,true,true,true,false] [])::kk)) cs) w)(t:Nat):LoneTo Tryz.prog Q (G ((base 37).at ⟨#[.pointer (some ⟨pb,0,none⟩),.pointer (some ⟨tb,0,none⟩),u2,u3,u4,u5,u6,u7,u8,u9,u10,u11,u12,u13,u14,u15,u16,u17,u18,u19,u20,u21,u22,.pointer (some ⟨pb,0,none⟩),.pointer (some ⟨pb,0,none⟩),undef,undef,.pointer (some ⟨tb,0,none⟩),.pointer (some ⟨tb,0,none⟩),.pointer (some ⟨tb,1,none⟩),undef],[]⟩ (.inRegion aF (Region.linearise.go .any aF 4 t #[true,true,false,false,true,true,true,false,false] [])::kk)) cs) w:=by
 obtain⟨i,hi,d,e⟩:=fx (md:=.any) (ops:=aF) (fuel:=3) (t:=t) (listed:= #[true,true,false,false,true,true,true,false,false]) (rs:= [2,7]) (by kernel_rfl) (by simp);rw[e];rcases au.1 hi with rfl|hi
 ·skip
  refine LoneTo.goes (n:=1) ?_;simp only[aF,Tryz.f37];s_op
  s_stop
  exact Pi b c a d
 ·rw[aq.1 hi]
  refine LoneTo.goes (n:=1) ?_;simp only[aF,Tryz.f37];s_op
  s_stop
  exact Pl b c a d
theorem Pp(b:w.cell? ⟨pb,0,none⟩=some (.chan (some cb)))(c:w.cell? ⟨tb,1,none⟩=some (.int .i64 id))(a:∀t,LoneTo Tryz.prog Q (G ((base 37).at ⟨#[.pointer (some ⟨pb,0,none⟩),.pointer (some ⟨tb,0,none⟩),u2,u3,u4,u5,u6,u7,u8,u9,u10,u11,u12,u13,u14,u15,u16,u17,u18,u19,u20,u21,u22,.pointer (some ⟨pb,0,none⟩),.pointer (some ⟨pb,0,none⟩),.pointer (some ⟨pb,0,none⟩),.chan (some cb),.pointer (some ⟨tb,0,none⟩),.pointer (some ⟨tb,0,none⟩),.pointer (some ⟨tb,1,none⟩),.int .i64 id],[]⟩ (.inRegion aF (Region.linearise.go .any aF 1 t #[true,true,true,true,true,true,true,true,false] [])::kk)) cs) w)(t:Nat):LoneTo Tryz.prog Q (G ((base 37).at ⟨#[.pointer (some ⟨pb,0,none⟩),.pointer (some ⟨tb,0,none⟩),u2,u3,u4,u5,u6,u7,u8,u9,u10,u11,u12,u13,u14,u15,u16,u17,u18,u19,u20,u21,u22,.pointer (some ⟨pb,0,none⟩),undef,undef,undef,.pointer (some ⟨tb,0,none⟩),.pointer (some ⟨tb,0,none⟩),.pointer (some ⟨tb,1,none⟩),.int .i64 id],[]⟩ (.inRegion aF (Region.linearise.go .any aF 4 t #[true,false,false,false,true,true,true,true,false] [])::kk)) cs) w:=by
 obtain⟨i,hi,d,e⟩:=fx (md:=.any) (ops:=aF) (fuel:=3) (t:=t) (listed:= #[true,false,false,false,true,true,true,true,false]) (rs:= [1]) (by kernel_rfl) (by simp);rw[e];rw[aq.1 hi];refine LoneTo.goes (n:=1) ?_;simp only[aF,Tryz.f37];s_op
 s_stop
 exact Pl b c a d
theorem SF(b:w.cell? ⟨pb,0,none⟩=some (.chan (some cb)))(c:w.cell? ⟨tb,1,none⟩=some (.int .i64 id))(a:∀t,LoneTo Tryz.prog Q (G ((base 37).at ⟨#[.pointer (some ⟨pb,0,none⟩),.pointer (some ⟨tb,0,none⟩),u2,u3,u4,u5,u6,u7,u8,u9,u10,u11,u12,u13,u14,u15,u16,u17,u18,u19,u20,u21,u22,.pointer (some ⟨pb,0,none⟩),.pointer (some ⟨pb,0,none⟩),.pointer (some ⟨pb,0,none⟩),.chan (some cb),.pointer (some ⟨tb,0,none⟩),.pointer (some ⟨tb,0,none⟩),.pointer (some ⟨tb,1,none⟩),.int .i64 id],[]⟩ (.inRegion aF (Region.linearise.go .any aF 1 t #[true,true,true,true,true,true,true,true,false] [])::kk)) cs) w)(t:Nat):LoneTo Tryz.prog Q (G ((base 37).at ⟨#[.pointer (some ⟨pb,0,none⟩),.pointer (some ⟨tb,0,none⟩),u2,u3,u4,u5,u6,u7,u8,u9,u10,u11,u12,u13,u14,u15,u16,u17,u18,u19,u20,u21,u22,.pointer (some ⟨pb,0,none⟩),.pointer (some ⟨pb,0,none⟩),.pointer (some ⟨pb,0,none⟩),.chan (some cb),undef,undef,undef,undef],[]⟩ (.inRegion aF (Region.linearise.go .any aF 5 t #[true,true,true,true,false,false,false,false,false] [])::kk)) cs) w:=by
 obtain⟨i,hi,d,e⟩:=fx (md:=.any) (ops:=aF) (fuel:=4) (t:=t) (listed:= #[true,true,true,true,false,false,false,false,false]) (rs:= [4]) (by kernel_rfl) (by simp);rw[e];rw[aq.1 hi];refine LoneTo.goes (n:=1) ?_;simp only[aF,Tryz.f37];s_op
 s_stop
 exact Pg b c a d
theorem Pk(b:w.cell? ⟨pb,0,none⟩=some (.chan (some cb)))(c:w.cell? ⟨tb,1,none⟩=some (.int .i64 id))(a:∀t,LoneTo Tryz.prog Q (G ((base 37).at ⟨#[.pointer (some ⟨pb,0,none⟩),.pointer (some ⟨tb,0,none⟩),u2,u3,u4,u5,u6,u7,u8,u9,u10,u11,u12,u13,u14,u15,u16,u17,u18,u19,u20,u21,u22,.pointer (some ⟨pb,0,none⟩),.pointer (some ⟨pb,0,none⟩),.pointer (some ⟨pb,0,none⟩),.chan (some cb),.pointer (some ⟨tb,0,none⟩),.pointer (some ⟨tb,0,none⟩),.pointer (some ⟨tb,1,none⟩),.int .i64 id],[]⟩ (.inRegion aF (Region.linearise.go .any aF 1 t #[true,true,true,true,true,true,true,true,false] [])::kk)) cs) w)(t:Nat):LoneTo Tryz.prog Q (G ((base 37).at ⟨#[.pointer (some ⟨pb,0,none⟩),.pointer (some ⟨tb,0,none⟩),u2,u3,u4,u5,u6,u7,u8,u9,u10,u11,u12,u13,u14,u15,u16,u17,u18,u19,u20,u21,u22,.pointer (some ⟨pb,0,none⟩),.pointer (some ⟨pb,0,none⟩),.pointer (some ⟨pb,0,none⟩),undef,.pointer (some ⟨tb,0,none⟩),undef,undef,undef],[]⟩ (.inRegion aF (Region.linearise.go .any aF 5 t #[true,true,true,false,true,false,false,false,false] [])::kk)) cs) w:=by
 obtain⟨i,hi,d,e⟩:=fx (md:=.any) (ops:=aF) (fuel:=4) (t:=t) (listed:= #[true,true,true,false,true,false,false,false,false]) (rs:= [3,5]) (by kernel_rfl) (by simp);rw[e];rcases au.1 hi with rfl|hi
 ·skip
  refine LoneTo.goes (n:=1) ?_;simp only[aF,Tryz.f37];s_op
  s_stop
  exact Pg b c a d
 ·rw[aq.1 hi]
  refine LoneTo.goes (n:=1) ?_;simp only[aF,Tryz.f37];s_op
  s_stop
  exact Pj b c a d
theorem Pn(b:w.cell? ⟨pb,0,none⟩=some (.chan (some cb)))(c:w.cell? ⟨tb,1,none⟩=some (.int .i64 id))(a:∀t,LoneTo Tryz.prog Q (G ((base 37).at ⟨#[.pointer (some ⟨pb,0,none⟩),.pointer (some ⟨tb,0,none⟩),u2,u3,u4,u5,u6,u7,u8,u9,u10,u11,u12,u13,u14,u15,u16,u17,u18,u19,u20,u21,u22,.pointer (some ⟨pb,0,none⟩),.pointer (some ⟨pb,0,none⟩),.pointer (some ⟨pb,0,none⟩),.chan (some cb),.pointer (some ⟨tb,0,none⟩),.pointer (some ⟨tb,0,none⟩),.pointer (some ⟨tb,1,none⟩),.int .i64 id],[]⟩ (.inRegion aF (Region.linearise.go .any aF 1 t #[true,true,true,true,true,true,true,true,false] [])::kk)) cs) w)(t:Nat):LoneTo Tryz.prog Q (G ((base 37).at ⟨#[.pointer (some ⟨pb,0,none⟩),.pointer (some ⟨tb,0,none⟩),u2,u3,u4,u5,u6,u7,u8,u9,u10,u11,u12,u13,u14,u15,u16,u17,u18,u19,u20,u21,u22,.pointer (some ⟨pb,0,none⟩),.pointer (some ⟨pb,0,none⟩),undef,undef,.pointer (some ⟨tb,0,none⟩),.pointer (some ⟨tb,0,none⟩),undef,undef],[]⟩ (.inRegion aF (Region.linearise.go .any aF 5 t #[true,true,false,false,true,true,false,false,false] [])::kk)) cs) w:=by
 obtain⟨i,hi,d,e⟩:=fx (md:=.any) (ops:=aF) (fuel:=4) (t:=t) (listed:= #[true,true,false,false,true,true,false,false,false]) (rs:= [2,6]) (by kernel_rfl) (by simp);rw[e];rcases au.1 hi with rfl|hi
 ·skip
  refine LoneTo.goes (n:=1) ?_;simp only[aF,Tryz.f37];s_op
  s_stop
  exact Pj b c a d
 ·rw[aq.1 hi]
  refine LoneTo.goes (n:=1) ?_;simp only[aF,Tryz.f37];s_op
  s_stop
  exact Pm b c a d
theorem Pq(b:w.cell? ⟨pb,0,none⟩=some (.chan (some cb)))(c:w.cell? ⟨tb,1,none⟩=some (.int .i64 id))(a:∀t,LoneTo Tryz.prog Q (G ((base 37).at ⟨#[.pointer (some ⟨pb,0,none⟩),.pointer (some ⟨tb,0,none⟩),u2,u3,u4,u5,u6,u7,u8,u9,u10,u11,u12,u13,u14,u15,u16,u17,u18,u19,u20,u21,u22,.pointer (some ⟨pb,0,none⟩),.pointer (some ⟨pb,0,none⟩),.pointer (some ⟨pb,0,none⟩),.chan (some cb),.pointer (some ⟨tb,0,none⟩),.pointer (some ⟨tb,0,none⟩),.pointer (some ⟨tb,1,none⟩),.int .i64 id],[]⟩ (.inRegion aF (Region.linearise.go .any aF 1 t #[true,true,true,true,true,true,true,true,false] [])::kk)) cs) w)(t:Nat):LoneTo Tryz.prog Q (G ((base 37).at ⟨#[.pointer (some ⟨pb,0,none⟩),.pointer (some ⟨tb,0,none⟩),u2,u3,u4,u5,u6,u7,u8,u9,u10,u11,u12,u13,u14,u15,u16,u17,u18,u19,u20,u21,u22,.pointer (some ⟨pb,0,none⟩),undef,undef,undef,.pointer (some ⟨tb,0,none⟩),.pointer (some ⟨tb,0,none⟩),.pointer (some ⟨tb,1,none⟩),undef],[]⟩ (.inRegion aF (Region.linearise.go .any aF 5 t #[true,false,false,false,true,true,true,false,false] [])::kk)) cs) w:=by
 obtain⟨i,hi,d,e⟩:=fx (md:=.any) (ops:=aF) (fuel:=4) (t:=t) (listed:= #[true,false,false,false,true,true,true,false,false]) (rs:= [1,7]) (by kernel_rfl) (by simp);rw[e];rcases au.1 hi with rfl|hi
 ·skip
  refine LoneTo.goes (n:=1) ?_;simp only[aF,Tryz.f37];s_op
  s_stop
  exact Pm b c a d
 ·rw[aq.1 hi]
  refine LoneTo.goes (n:=1) ?_;simp only[aF,Tryz.f37];s_op
  s_stop
  exact Pp b c a d
theorem SJ(b:w.cell? ⟨pb,0,none⟩=some (.chan (some cb)))(c:w.cell? ⟨tb,1,none⟩=some (.int .i64 id))(a:∀t,LoneTo Tryz.prog Q (G ((base 37).at ⟨#[.pointer (some ⟨pb,0,none⟩),.pointer (some ⟨tb,0,none⟩),u2,u3,u4,u5,u6,u7,u8,u9,u10,u11,u12,u13,u14,u15,u16,u17,u18,u19,u20,u21,u22,.pointer (some ⟨pb,0,none⟩),.pointer (some ⟨pb,0,none⟩),.pointer (some ⟨pb,0,none⟩),.chan (some cb),.pointer (some ⟨tb,0,none⟩),.pointer (some ⟨tb,0,none⟩),.pointer (some ⟨tb,1,none⟩),.int .i64 id],[]⟩ (.inRegion aF (Region.linearise.go .any aF 1 t #[true,true,true,true,true,true,true,true,false] [])::kk)) cs) w)(t:Nat):LoneTo Tryz.prog Q (G ((base 37).at ⟨#[.pointer (some ⟨pb,0,none⟩),.pointer (some ⟨tb,0,none⟩),u2,u3,u4,u5,u6,u7,u8,u9,u10,u11,u12,u13,u14,u15,u16,u17,u18,u19,u20,u21,u22,undef,undef,undef,undef,.pointer (some ⟨tb,0,none⟩),.pointer (some ⟨tb,0,none⟩),.pointer (some ⟨tb,1,none⟩),.int .i64 id],[]⟩ (.inRegion aF (Region.linearise.go .any aF 5 t #[false,false,false,false,true,true,true,true,false] [])::kk)) cs) w:=by
 obtain⟨i,hi,d,e⟩:=fx (md:=.any) (ops:=aF) (fuel:=4) (t:=t) (listed:= #[false,false,false,false,true,true,true,true,false]) (rs:= [0]) (by kernel_rfl) (by simp);rw[e];rw[aq.1 hi];refine LoneTo.goes (n:=1) ?_;simp only[aF,Tryz.f37];s_op
 s_stop
 exact Pp b c a d
theorem SG(b:w.cell? ⟨pb,0,none⟩=some (.chan (some cb)))(c:w.cell? ⟨tb,1,none⟩=some (.int .i64 id))(a:∀t,LoneTo Tryz.prog Q (G ((base 37).at ⟨#[.pointer (some ⟨pb,0,none⟩),.pointer (some ⟨tb,0,none⟩),u2,u3,u4,u5,u6,u7,u8,u9,u10,u11,u12,u13,u14,u15,u16,u17,u18,u19,u20,u21,u22,.pointer (some ⟨pb,0,none⟩),.pointer (some ⟨pb,0,none⟩),.pointer (some ⟨pb,0,none⟩),.chan (some cb),.pointer (some ⟨tb,0,none⟩),.pointer (some ⟨tb,0,none⟩),.pointer (some ⟨tb,1,none⟩),.int .i64 id],[]⟩ (.inRegion aF (Region.linearise.go .any aF 1 t #[true,true,true,true,true,true,true,true,false] [])::kk)) cs) w)(t:Nat):LoneTo Tryz.prog Q (G ((base 37).at ⟨#[.pointer (some ⟨pb,0,none⟩),.pointer (some ⟨tb,0,none⟩),u2,u3,u4,u5,u6,u7,u8,u9,u10,u11,u12,u13,u14,u15,u16,u17,u18,u19,u20,u21,u22,.pointer (some ⟨pb,0,none⟩),.pointer (some ⟨pb,0,none⟩),.pointer (some ⟨pb,0,none⟩),undef,undef,undef,undef,undef],[]⟩ (.inRegion aF (Region.linearise.go .any aF 6 t #[true,true,true,false,false,false,false,false,false] [])::kk)) cs) w:=by
 obtain⟨i,hi,d,e⟩:=fx (md:=.any) (ops:=aF) (fuel:=5) (t:=t) (listed:= #[true,true,true,false,false,false,false,false,false]) (rs:= [3,4]) (by kernel_rfl) (by simp);rw[e];rcases au.1 hi with rfl|hi
 ·skip
  refine LoneTo.goes (n:=1) ?_;simp only[aF,Tryz.f37];s_op
  s_stop
  exact SF b c a d
 ·rw[aq.1 hi]
  refine LoneTo.goes (n:=1) ?_;simp only[aF,Tryz.f37];s_op
  s_stop
  exact Pk b c a d
theorem Po(b:w.cell? ⟨pb,0,none⟩=some (.chan (some cb)))(c:w.cell? ⟨tb,1,none⟩=some (.int .i64 id))(a:∀t,LoneTo Tryz.prog Q (G ((base 37).at ⟨#[.pointer (some ⟨pb,0,none⟩),.pointer (some ⟨tb,0,none⟩),u2,u3,u4,u5,u6,u7,u8,u9,u10,u11,u12,u13,u14,u15,u16,u17,u18,u19,u20,u21,u22,.pointer (some ⟨pb,0,none⟩),.pointer (some ⟨pb,0,none⟩),.pointer (some ⟨pb,0,none⟩),.chan (some cb),.pointer (some ⟨tb,0,none⟩),.pointer (some ⟨tb,0,none⟩),.pointer (some ⟨tb,1,none⟩),.int .i64 id],[]⟩ (.inRegion aF (Region.linearise.go .any aF 1 t #[true,true,true,true,true,true,true,true,false] [])::kk)) cs) w)(t:Nat):LoneTo Tryz.prog Q (G ((base 37).at ⟨#[.pointer (some ⟨pb,0,none⟩),.pointer (some ⟨tb,0,none⟩),u2,u3,u4,u5,u6,u7,u8,u9,u10,u11,u12,u13,u14,u15,u16,u17,u18,u19,u20,u21,u22,.pointer (some ⟨pb,0,none⟩),.pointer (some ⟨pb,0,none⟩),undef,undef,.pointer (some ⟨tb,0,none⟩),undef,undef,undef],[]⟩ (.inRegion aF (Region.linearise.go .any aF 6 t #[true,true,false,false,true,false,false,false,false] [])::kk)) cs) w:=by
 obtain⟨i,hi,d,e⟩:=fx (md:=.any) (ops:=aF) (fuel:=5) (t:=t) (listed:= #[true,true,false,false,true,false,false,false,false]) (rs:= [2,5]) (by kernel_rfl) (by simp);rw[e];rcases au.1 hi with rfl|hi
 ·skip
  refine LoneTo.goes (n:=1) ?_;simp only[aF,Tryz.f37];s_op
  s_stop
  exact Pk b c a d
 ·rw[aq.1 hi]
  refine LoneTo.goes (n:=1) ?_;simp only[aF,Tryz.f37];s_op
  s_stop
  exact Pn b c a d
theorem Ps(b:w.cell? ⟨pb,0,none⟩=some (.chan (some cb)))(c:w.cell? ⟨tb,1,none⟩=some (.int .i64 id))(a:∀t,LoneTo Tryz.prog Q (G ((base 37).at ⟨#[.pointer (some ⟨pb,0,none⟩),.pointer (some ⟨tb,0,none⟩),u2,u3,u4,u5,u6,u7,u8,u9,u10,u11,u12,u13,u14,u15,u16,u17,u18,u19,u20,u21,u22,.pointer (some ⟨pb,0,none⟩),.pointer (some ⟨pb,0,none⟩),.pointer (some ⟨pb,0,none⟩),.chan (some cb),.pointer (some ⟨tb,0,none⟩),.pointer (some ⟨tb,0,none⟩),.pointer (some ⟨tb,1,none⟩),.int .i64 id],[]⟩ (.inRegion aF (Region.linearise.go .any aF 1 t #[true,true,true,true,true,true,true,true,false] [])::kk)) cs) w)(t:Nat):LoneTo Tryz.prog Q (G ((base 37).at ⟨#[.pointer (some ⟨pb,0,none⟩),.pointer (some ⟨tb,0,none⟩),u2,u3,u4,u5,u6,u7,u8,u9,u10,u11,u12,u13,u14,u15,u16,u17,u18,u19,u20,u21,u22,.pointer (some ⟨pb,0,none⟩),undef,undef,undef,.pointer (some ⟨tb,0,none⟩),.pointer (some ⟨tb,0,none⟩),undef,undef],[]⟩ (.inRegion aF (Region.linearise.go .any aF 6 t #[true,false,false,false,true,true,false,false,false] [])::kk)) cs) w:=by
 obtain⟨i,hi,d,e⟩:=fx (md:=.any) (ops:=aF) (fuel:=5) (t:=t) (listed:= #[true,false,false,false,true,true,false,false,false]) (rs:= [1,6]) (by kernel_rfl) (by simp);rw[e];rcases au.1 hi with rfl|hi
 ·skip
  refine LoneTo.goes (n:=1) ?_;simp only[aF,Tryz.f37];s_op
  s_stop
  exact Pn b c a d
 ·rw[aq.1 hi]
  refine LoneTo.goes (n:=1) ?_;simp only[aF,Tryz.f37];s_op
  s_stop
  exact Pq b c a d
theorem SK(b:w.cell? ⟨pb,0,none⟩=some (.chan (some cb)))(c:w.cell? ⟨tb,1,none⟩=some (.int .i64 id))(a:∀t,LoneTo Tryz.prog Q (G ((base 37).at ⟨#[.pointer (some ⟨pb,0,none⟩),.pointer (some ⟨tb,0,none⟩),u2,u3,u4,u5,u6,u7,u8,u9,u10,u11,u12,u13,u14,u15,u16,u17,u18,u19,u20,u21,u22,.pointer (some ⟨pb,0,none⟩),.pointer (some ⟨pb,0,none⟩),.pointer (some ⟨pb,0,none⟩),.chan (some cb),.pointer (some ⟨tb,0,none⟩),.pointer (some ⟨tb,0,none⟩),.pointer (some ⟨tb,1,none⟩),.int .i64 id],[]⟩ (.inRegion aF (Region.linearise.go .any aF 1 t #[true,true,true,true,true,true,true,true,false] [])::kk)) cs) w)(t:Nat):LoneTo Tryz.prog Q (G ((base 37).at ⟨#[.pointer (some ⟨pb,0,none⟩),.pointer (some ⟨tb,0,none⟩),u2,u3,u4,u5,u6,u7,u8,u9,u10,u11,u12,u13,u14,u15,u16,u17,u18,u19,u20,u21,u22,undef,undef,undef,undef,.pointer (some ⟨tb,0,none⟩),.pointer (some ⟨tb,0,none⟩),.pointer (some ⟨tb,1,none⟩),undef],[]⟩ (.inRegion aF (Region.linearise.go .any aF 6 t #[false,false,false,false,true,true,true,false,false] [])::kk)) cs) w:=by
 obtain⟨i,hi,d,e⟩:=fx (md:=.any) (ops:=aF) (fuel:=5) (t:=t) (listed:= #[false,false,false,false,true,true,true,false,false]) (rs:= [0,7]) (by kernel_rfl) (by simp);rw[e];rcases au.1 hi with rfl|hi
 ·skip
  refine LoneTo.goes (n:=1) ?_;simp only[aF,Tryz.f37];s_op
  s_stop
  exact Pq b c a d
 ·rw[aq.1 hi]
  refine LoneTo.goes (n:=1) ?_;simp only[aF,Tryz.f37];s_op
  s_stop
  exact SJ b c a d
theorem SH(b:w.cell? ⟨pb,0,none⟩=some (.chan (some cb)))(c:w.cell? ⟨tb,1,none⟩=some (.int .i64 id))(a:∀t,LoneTo Tryz.prog Q (G ((base 37).at ⟨#[.pointer (some ⟨pb,0,none⟩),.pointer (some ⟨tb,0,none⟩),u2,u3,u4,u5,u6,u7,u8,u9,u10,u11,u12,u13,u14,u15,u16,u17,u18,u19,u20,u21,u22,.pointer (some ⟨pb,0,none⟩),.pointer (some ⟨pb,0,none⟩),.pointer (some ⟨pb,0,none⟩),.chan (some cb),.pointer (some ⟨tb,0,none⟩),.pointer (some ⟨tb,0,none⟩),.pointer (some ⟨tb,1,none⟩),.int .i64 id],[]⟩ (.inRegion aF (Region.linearise.go .any aF 1 t #[true,true,true,true,true,true,true,true,false] [])::kk)) cs) w)(t:Nat):LoneTo Tryz.prog Q (G ((base 37).at ⟨#[.pointer (some ⟨pb,0,none⟩),.pointer (some ⟨tb,0,none⟩),u2,u3,u4,u5,u6,u7,u8,u9,u10,u11,u12,u13,u14,u15,u16,u17,u18,u19,u20,u21,u22,.pointer (some ⟨pb,0,none⟩),.pointer (some ⟨pb,0,none⟩),undef,undef,undef,undef,undef,undef],[]⟩ (.inRegion aF (Region.linearise.go .any aF 7 t #[true,true,false,false,false,false,false,false,false] [])::kk)) cs) w:=by
 obtain⟨i,hi,d,e⟩:=fx (md:=.any) (ops:=aF) (fuel:=6) (t:=t) (listed:= #[true,true,false,false,false,false,false,false,false]) (rs:= [2,4]) (by kernel_rfl) (by simp);rw[e];rcases au.1 hi with rfl|hi
 ·skip
  refine LoneTo.goes (n:=1) ?_;simp only[aF,Tryz.f37];s_op
  s_stop
  exact SG b c a d
 ·rw[aq.1 hi]
  refine LoneTo.goes (n:=1) ?_;simp only[aF,Tryz.f37];s_op
  s_stop
  exact Po b c a d
theorem Pt(b:w.cell? ⟨pb,0,none⟩=some (.chan (some cb)))(c:w.cell? ⟨tb,1,none⟩=some (.int .i64 id))(a:∀t,LoneTo Tryz.prog Q (G ((base 37).at ⟨#[.pointer (some ⟨pb,0,none⟩),.pointer (some ⟨tb,0,none⟩),u2,u3,u4,u5,u6,u7,u8,u9,u10,u11,u12,u13,u14,u15,u16,u17,u18,u19,u20,u21,u22,.pointer (some ⟨pb,0,none⟩),.pointer (some ⟨pb,0,none⟩),.pointer (some ⟨pb,0,none⟩),.chan (some cb),.pointer (some ⟨tb,0,none⟩),.pointer (some ⟨tb,0,none⟩),.pointer (some ⟨tb,1,none⟩),.int .i64 id],[]⟩ (.inRegion aF (Region.linearise.go .any aF 1 t #[true,true,true,true,true,true,true,true,false] [])::kk)) cs) w)(t:Nat):LoneTo Tryz.prog Q (G ((base 37).at ⟨#[.pointer (some ⟨pb,0,none⟩),.pointer (some ⟨tb,0,none⟩),u2,u3,u4,u5,u6,u7,u8,u9,u10,u11,u12,u13,u14,u15,u16,u17,u18,u19,u20,u21,u22,.pointer (some ⟨pb,0,none⟩),undef,undef,undef,.pointer (some ⟨tb,0,none⟩),undef,undef,undef],[]⟩ (.inRegion aF (Region.linearise.go .any aF 7 t #[true,false,false,false,true,false,false,false,false] [])::kk)) cs) w:=by
 obtain⟨i,hi,d,e⟩:=fx (md:=.any) (ops:=aF) (fuel:=6) (t:=t) (listed:= #[true,false,false,false,true,false,false,false,false]) (rs:= [1,5]) (by kernel_rfl) (by simp);rw[e];rcases au.1 hi with rfl|hi
 ·skip
  refine LoneTo.goes (n:=1) ?_;simp only[aF,Tryz.f37];s_op
  s_stop
  exact Po b c a d
 ·rw[aq.1 hi]
  refine LoneTo.goes (n:=1) ?_;simp only[aF,Tryz.f37];s_op
  s_stop
  exact Ps b c a d
theorem SL(b:w.cell? ⟨pb,0,none⟩=some (.chan (some cb)))(c:w.cell? ⟨tb,1,none⟩=some (.int .i64 id))(a:∀t,LoneTo Tryz.prog Q (G ((base 37).at ⟨#[.pointer (some ⟨pb,0,none⟩),.pointer (some ⟨tb,0,none⟩),u2,u3,u4,u5,u6,u7,u8,u9,u10,u11,u12,u13,u14,u15,u16,u17,u18,u19,u20,u21,u22,.pointer (some ⟨pb,0,none⟩),.pointer (some ⟨pb,0,none⟩),.pointer (some ⟨pb,0,none⟩),.chan (some cb),.pointer (some ⟨tb,0,none⟩),.pointer (some ⟨tb,0,none⟩),.pointer (some ⟨tb,1,none⟩),.int .i64 id],[]⟩ (.inRegion aF (Region.linearise.go .any aF 1 t #[true,true,true,true,true,true,true,true,false] [])::kk)) cs) w)(t:Nat):LoneTo Tryz.prog Q (G ((base 37).at ⟨#[.pointer (some ⟨pb,0,none⟩),.pointer (some ⟨tb,0,none⟩),u2,u3,u4,u5,u6,u7,u8,u9,u10,u11,u12,u13,u14,u15,u16,u17,u18,u19,u20,u21,u22,undef,undef,undef,undef,.pointer (some ⟨tb,0,none⟩),.pointer (some ⟨tb,0,none⟩),undef,undef],[]⟩ (.inRegion aF (Region.linearise.go .any aF 7 t #[false,false,false,false,true,true,false,false,false] [])::kk)) cs) w:=by
 obtain⟨i,hi,d,e⟩:=fx (md:=.any) (ops:=aF) (fuel:=6) (t:=t) (listed:= #[false,false,false,false,true,true,false,false,false]) (rs:= [0,6]) (by kernel_rfl) (by simp);rw[e];rcases au.1 hi with rfl|hi
 ·skip
  refine LoneTo.goes (n:=1) ?_;simp only[aF,Tryz.f37];s_op
  s_stop
  exact Ps b c a d
 ·rw[aq.1 hi]
  refine LoneTo.goes (n:=1) ?_;simp only[aF,Tryz.f37];s_op
  s_stop
  exact SK b c a d
theorem SI(b:w.cell? ⟨pb,0,none⟩=some (.chan (some cb)))(c:w.cell? ⟨tb,1,none⟩=some (.int .i64 id))(a:∀t,LoneTo Tryz.prog Q (G ((base 37).at ⟨#[.pointer (some ⟨pb,0,none⟩),.pointer (some ⟨tb,0,none⟩),u2,u3,u4,u5,u6,u7,u8,u9,u10,u11,u12,u13,u14,u15,u16,u17,u18,u19,u20,u21,u22,.pointer (some ⟨pb,0,none⟩),.pointer (some ⟨pb,0,none⟩),.pointer (some ⟨pb,0,none⟩),.chan (some cb),.pointer (some ⟨tb,0,none⟩),.pointer (some ⟨tb,0,none⟩),.pointer (some ⟨tb,1,none⟩),.int .i64 id],[]⟩ (.inRegion aF (Region.linearise.go .any aF 1 t #[true,true,true,true,true,true,true,true,false] [])::kk)) cs) w)(t:Nat):LoneTo Tryz.prog Q (G ((base 37).at ⟨#[.pointer (some ⟨pb,0,none⟩),.pointer (some ⟨tb,0,none⟩),u2,u3,u4,u5,u6,u7,u8,u9,u10,u11,u12,u13,u14,u15,u16,u17,u18,u19,u20,u21,u22,.pointer (some ⟨pb,0,none⟩),undef,undef,undef,undef,undef,undef,undef],[]⟩ (.inRegion aF (Region.linearise.go .any aF 8 t #[true,false,false,false,false,false,false,false,false] [])::kk)) cs) w:=by
 obtain⟨i,hi,d,e⟩:=fx (md:=.any) (ops:=aF) (fuel:=7) (t:=t) (listed:= #[true,false,false,false,false,false,false,false,false]) (rs:= [1,4]) (by kernel_rfl) (by simp);rw[e];rcases au.1 hi with rfl|hi
 ·skip
  refine LoneTo.goes (n:=1) ?_;simp only[aF,Tryz.f37];s_op
  s_stop
  exact SH b c a d
 ·rw[aq.1 hi]
  refine LoneTo.goes (n:=1) ?_;simp only[aF,Tryz.f37];s_op
  s_stop
  exact Pt b c a d
theorem SM(b:w.cell? ⟨pb,0,none⟩=some (.chan (some cb)))(c:w.cell? ⟨tb,1,none⟩=some (.int .i64 id))(a:∀t,LoneTo Tryz.prog Q (G ((base 37).at ⟨#[.pointer (some ⟨pb,0,none⟩),.pointer (some ⟨tb,0,none⟩),u2,u3,u4,u5,u6,u7,u8,u9,u10,u11,u12,u13,u14,u15,u16,u17,u18,u19,u20,u21,u22,.pointer (some ⟨pb,0,none⟩),.pointer (some ⟨pb,0,none⟩),.pointer (some ⟨pb,0,none⟩),.chan (some cb),.pointer (some ⟨tb,0,none⟩),.pointer (some ⟨tb,0,none⟩),.pointer (some ⟨tb,1,none⟩),.int .i64 id],[]⟩ (.inRegion aF (Region.linearise.go .any aF 1 t #[true,true,true,true,true,true,true,true,false] [])::kk)) cs) w)(t:Nat):LoneTo Tryz.prog Q (G ((base 37).at ⟨#[.pointer (some ⟨pb,0,none⟩),.pointer (some ⟨tb,0,none⟩),u2,u3,u4,u5,u6,u7,u8,u9,u10,u11,u12,u13,u14,u15,u16,u17,u18,u19,u20,u21,u22,undef,undef,undef,undef,.pointer (some ⟨tb,0,none⟩),undef,undef,undef],[]⟩ (.inRegion aF (Region.linearise.go .any aF 8 t #[false,false,false,false,true,false,false,false,false] [])::kk)) cs) w:=by
 obtain⟨i,hi,d,e⟩:=fx (md:=.any) (ops:=aF) (fuel:=7) (t:=t) (listed:= #[false,false,false,false,true,false,false,false,false]) (rs:= [0,5]) (by kernel_rfl) (by simp);rw[e];rcases au.1 hi with rfl|hi
 ·skip
  refine LoneTo.goes (n:=1) ?_;simp only[aF,Tryz.f37];s_op
  s_stop
  exact Pt b c a d
 ·rw[aq.1 hi]
  refine LoneTo.goes (n:=1) ?_;simp only[aF,Tryz.f37];s_op
  s_stop
  exact SL b c a d
theorem SO(b:w.cell? ⟨pb,0,none⟩=some (.chan (some cb)))(c:w.cell? ⟨tb,1,none⟩=some (.int .i64 id))(a:∀t,LoneTo Tryz.prog Q (G ((base 37).at ⟨#[.pointer (some ⟨pb,0,none⟩),.pointer (some ⟨tb,0,none⟩),u2,u3,u4,u5,u6,u7,u8,u9,u10,u11,u12,u13,u14,u15,u16,u17,u18,u19,u20,u21,u22,.pointer (some ⟨pb,0,none⟩),.pointer (some ⟨pb,0,none⟩),.pointer (some ⟨pb,0,none⟩),.chan (some cb),.pointer (some ⟨tb,0,none⟩),.pointer (some ⟨tb,0,none⟩),.pointer (some ⟨tb,1,none⟩),.int .i64 id],[]⟩ (.inRegion aF (Region.linearise.go .any aF 1 t #[true,true,true,true,true,true,true,true,false] [])::kk)) cs) w)(t:Nat):LoneTo Tryz.prog Q (G ((base 37).at ⟨#[.pointer (some ⟨pb,0,none⟩),.pointer (some ⟨tb,0,none⟩),u2,u3,u4,u5,u6,u7,u8,u9,u10,u11,u12,u13,u14,u15,u16,u17,u18,u19,u20,u21,u22,undef,undef,undef,undef,undef,undef,undef,undef],[]⟩ (.inRegion aF (Region.linearise.go .any aF 9 t #[false,false,false,false,false,false,false,false,false] [])::kk)) cs) w:=by
 obtain⟨i,hi,d,e⟩:=fx (md:=.any) (ops:=aF) (fuel:=8) (t:=t) (listed:= #[false,false,false,false,false,false,false,false,false]) (rs:= [0,4]) (by kernel_rfl) (by simp);rw[e];rcases au.1 hi with rfl|hi
 ·skip
  refine LoneTo.goes (n:=1) ?_;simp only[aF,Tryz.f37];s_op
  s_stop
  exact SI b c a d
 ·rw[aq.1 hi]
  refine LoneTo.goes (n:=1) ?_;simp only[aF,Tryz.f37];s_op
  s_stop
  exact SM b c a d
end
theorem Jt{P:Program}{c:Bool}{b:Frame}{a:Act}{k:List Item}{cs:List Frame}{w:World}{id:Nat}{ops:Array Oper}:stepG P c (G (b.at a (.code (.region id ops true)::k)) cs) w=.go (G (b.at a (.inRegion ops (Region.schedule (P.follows .mixedOrders) ops (w.tape w.drawn (.order b.fn id)))::k)) cs) {w with drawn:=w.drawn+1}:=by
 simp[G,stepG,stepG.exec,Frame.at,choose,Sem.run,Question.forced,Question.cut]
set_option maxRecDepth 100000 in
theorem OY{w:World}{b:Nat}{c:Array Value}{t:TypeId}(j:w.heap[b]? =some (.cells c t (0,0))) (hc:0<c.size):(binOp .neq 39 (.pointer (some ⟨b,0,none⟩)) (.pointer (some ⟨b,0,none⟩))).run Tryz.prog w=.ok (.bool false) w:=by
 have d:Tryz.prog.underlying 39=some (.pointer 130):=by kernel_rfl
 have hz:Nat.beq (bS Tryz.prog 130) 0=false:=by kernel_rfl
 have e:d9 w.heap ⟨b,0,none⟩:=⟨c,t,j,hc⟩;have h:RE Tryz.prog 39 true (.pointer (some ⟨b,0,none⟩)) (.pointer (some ⟨b,0,none⟩)) (fun v _=>v=.bool false) w.heap:=by
  unfold RE;rw[d];simp only[];rw[hz];refine⟨trivial,fun x y hx i=>?_,by simp⟩
  cases hx;cases i;exact⟨e,e⟩
 unfold RE at h;rw[d]at h;obtain⟨_,a,_⟩:=h;obtain⟨_,_,v,S,g,m,f⟩:=As (P:=Tryz.prog) (t:=39) (neg:=true) (x:=.pointer (some ⟨b,0,none⟩)) (y:=.pointer (some ⟨b,0,none⟩)) (K:=fun v S=>v=.bool false∧PZ S w.heap) (h:=w.heap) (by
  unfold RE
  rw[d]
  simp only[]
  rw[hz]
  exact⟨trivial,a,by simp,a⟩)
 obtain⟨rfl,k⟩:=g;exact f w k
set_option maxRecDepth 100000 in
set_option maxHeartbeats 4000000 in
theorem Pd{w:World}{pb tb cb cap s r:Nat}{id:Int}{buf:Array Value}(k:w.heap[pb]? =some (.cells #[.chan (some cb)] 130 (0,0))) (b:w.heap[tb]? =some (.cells #[.pointer (some ⟨pb,0,none⟩),.int .i64 id,.bool true] 140 (0,0))) (hc:w.heap[cb]? =some (.chan cap buf false s r false)) (v:buf.size<cap) (g:pb≠tb) (f:cb≠tb):
  Calls Tryz.prog 37 #[.pointer (some ⟨pb,0,none⟩),.pointer (some ⟨tb,0,none⟩)] w fun e w'=>e=.returned (.int .i64 0)∧∃n,w'=({w.setCell ⟨tb,2,none⟩ (.bool false)with drawn:=n}:World).setChan cb cap (buf.push (.int .i64 id)) false (s+1) r false:=by
 refine calls_of_loneTo fun cs=>?_
 have e:Frame.enter Tryz.prog 37 #[.pointer (some ⟨pb,0,none⟩),.pointer (some ⟨tb,0,none⟩)] .normal=(base 37).at ⟨#[.pointer (some ⟨pb,0,none⟩),.pointer (some ⟨tb,0,none⟩),undef,undef,undef,undef,undef,undef,undef,undef,undef,undef,undef,undef,undef,undef,undef,undef,undef,undef,undef,undef,undef,undef,undef,undef,undef,undef,undef,undef,undef],[]⟩ [.code (Tryz.f37.body.getD .skip)]:=by
  simp[Frame.enter,Frame.at,Tryz.func37,base,Tryz.f37]
 rw[e];have p:=wa b (i:=0) rfl;have q:=wa b (i:=2) rfl;have u:=Nn b (i:=2);have o:=OY k (by simp);refine LoneTo.goes (n:=52) ?_;simp only[Tryz.f37,oO];s_c stepG_seq
 s_reg
 s_op
 s_c stepG_region_end
 s_c stepG_seq
 s_c stepG_seq
 s_reg
 s_op
 s_op
 s_op
 s_op
 s_call Tryz.func79 (by kernel_rfl) Tryz.f79
 s_c stepG_seq
 s_reg
 s_op
 s_c stepG_region_end
 s_c stepG_seq
 s_reg
 s_op
 s_op
 s_op
 s_op
 s_op
 s_op
 s_op
 s_op
 s_op
 s_c stepG_region_end
 s_c stepG_ret'
 s_leave1 Tryz.func79
 s_op
 s_op
 s_op
 s_op
 s_op
 s_op
 s_op
 s_op
 s_op
 s_op
 s_c stepG_region_end
 s_cond false
 s_c stepG_skip
 s_c stepG_seq
 s_reg
 s_op
 s_op
 s_op
 s_op
 s_c stepG_region_end
 s_c stepG_seq
 s_in
 rw[Jt];simp only[goes_go];refine⟨trivial,?_⟩;s_stop
 have hm:Tryz.prog.follows .mixedOrders=true:=Tryz.mixed;simp only[Region.schedule,hm,Bool.true_or,if_true,Region.linearise];have m:=Upd.hset (M:=(· =tb)) w.heap (a:=⟨tb,2,none⟩) (.bool false) rfl
 have d:=m.get k (fun e=>g e)
 have j:=m.get hc (fun e=>f e)
 refine SO (pb:=pb) (tb:=tb) (cb:=cb) (id:=id) (wa d (i:=0) rfl) ?_ (fun t=>?_) _
 ·show(w.setCell ⟨tb,2,none⟩ (.bool false)).cell? ⟨tb,1,none⟩=_
  rw[World.cell?_setCell_other _ _ _ _ (by simp)];exact wa b (i:=1) rfl
 ·obtain⟨i,hi,x,e⟩:=fx (md:=.any) (ops:=aF) (fuel:=0) (t:=t) (listed:= #[true,true,true,true,true,true,true,true,false]) (rs:= [8]) (by kernel_rfl) (by simp)
  rw[e,aq.1 hi];simp only[aF,Tryz.f37,Region.linearise.go,List.reverse_nil];refine LoneTo.step (step_lone_send_room (c:=cb) (cap:=cap) (buf:=buf) (s:=s) (r:=r) (tm:=false) (stepG_comm (cases:= #[scase cb (.int .i64 id) (.tuple #[])]) (blocking:=true) (shape:=.send) (w':={w.setCell ⟨tb,2,none⟩ (.bool false)with drawn:=w.drawn+1}) rfl rfl (by decide) (by simp[execOp,scase,Act.eval])) j v) ?_
  rw[Frame.finish_at];walk_nrm
  refine LoneTo.goes (n:=6) ?_;s_c stepG_region_end
  s_c stepG_seq
  s_reg
  s_op
  s_c stepG_region_end
  s_c stepG_ret'
  s_stop
  refine LoneTo.done ⟨.returned (.int .i64 0),_,rfl,⟨rfl,_,rfl⟩,rfl,rfl,rfl,rfl,_,Tryz.func37,by simp[results,Tryz.f37,Frame.at]⟩
end Go.Proofs
namespace Go.Proofs
open Go.Lift
def IA(s:ByteArray)(i:Nat):Int:=match s[i]? with|some b=>(b.toNat:Int)|none=>0
def Ru(b:Int)(n:Int):Int:=IntKind.wrap .u64 ((IntKind.wrap .u64 b)*2^(min n.toNat (IntKind.bits .u64)))
def wj(s:ByteArray):Nat→Int→Int
 |0,t=>t
 |k+1,t=>wj s k (CQ t (if k=0 then IntKind.wrap .u64 (IA s 0)else Ru (IA s k) ((8*k:Nat):Int)))
def wH(s:ByteArray):Int:=wj s s.size 0
theorem rz{s:ByteArray}{i:Nat}(h:i<s.size):∃b,s[i]? =some b∧IA s i=(b.toNat:Int):=⟨s[i],getElem?_pos s i h,by simp[IA,getElem?_pos s i h]⟩
theorem LF{s:ByteArray}(Q:s.size≤8){h:ad}{K:Int→ad→Prop}(g:K (wH s) h):HC PG tT [.string s] [.c (.int .u64)] K h:=by
 refine K5 s ?_;unfold DG;refine Join.intro (fun t c=>c=h∧1≤s.size∧wj s 1 t=wj s s.size 0) (fun E j=>?_) ?_
 ·refine Join.intro (fun t c=>c=h∧2≤s.size∧wj s 2 t=wj s s.size 0) (fun L p=>?_) ?_
  ·refine Join.intro (fun t c=>c=h∧3≤s.size∧wj s 3 t=wj s s.size 0) (fun C o=>?_) ?_
   ·refine Join.intro (fun t c=>c=h∧4≤s.size∧wj s 4 t=wj s s.size 0) (fun R4 n=>?_) ?_
    ·refine Join.intro (fun t c=>c=h∧5≤s.size∧wj s 5 t=wj s s.size 0) (fun F k=>?_) ?_
     ·refine Join.intro (fun t c=>c=h∧6≤s.size∧wj s 6 t=wj s s.size 0) (fun O m=>?_) ?_
      ·refine Join.intro (fun t c=>c=h∧7≤s.size∧wj s 7 t=wj s s.size 0) (fun N q=>?_) ?_
       ·refine CondP.intro (fun e=>?_) fun u=>?_
        ·have e:s.size=8:=by have:=of_decide_eq_true (by simpa using e:decide ((s.size:Int)=8)=true);omega
         obtain⟨b,a,hv⟩:=rz (s:=s) (i:=7) (by omega);refine⟨b,by decide,a,by decide,q _ _ ⟨rfl,by omega,?_⟩⟩
         rw[e,←hv];rfl
        refine CondP.intro (fun e=>?_) fun B=>?_
        ·have e:s.size=7:=by have:=of_decide_eq_true (by simpa using e:decide ((s.size:Int)=7)=true);omega
         exact q _ _ ⟨rfl,by omega,by rw[e]⟩
        refine CondP.intro (fun e=>?_) fun y=>?_
        ·have e:s.size=6:=by have:=of_decide_eq_true (by simpa using e:decide ((s.size:Int)=6)=true);omega
         exact m _ _ ⟨rfl,by omega,by rw[e]⟩
        refine CondP.intro (fun e=>?_) fun A=>?_
        ·have e:s.size=5:=by have:=of_decide_eq_true (by simpa using e:decide ((s.size:Int)=5)=true);omega
         exact k _ _ ⟨rfl,by omega,by rw[e]⟩
        refine CondP.intro (fun e=>?_) fun x=>?_
        ·have e:s.size=4:=by have:=of_decide_eq_true (by simpa using e:decide ((s.size:Int)=4)=true);omega
         exact n _ _ ⟨rfl,by omega,by rw[e]⟩
        refine CondP.intro (fun e=>?_) fun w=>?_
        ·have e:s.size=3:=by have:=of_decide_eq_true (by simpa using e:decide ((s.size:Int)=3)=true);omega
         exact o _ _ ⟨rfl,by omega,by rw[e]⟩
        refine CondP.intro (fun e=>?_) fun v=>?_
        ·have e:s.size=2:=by have:=of_decide_eq_true (by simpa using e:decide ((s.size:Int)=2)=true);omega
         exact p _ _ ⟨rfl,by omega,by rw[e]⟩
        refine CondP.intro (fun e=>?_) fun z=>?_
        ·have e:s.size=1:=by have:=of_decide_eq_true (by simpa using e:decide ((s.size:Int)=1)=true);omega
         exact j _ _ ⟨rfl,by omega,by rw[e]⟩
        have e:s.size=0:=by
         have I:¬(s.size:Int)=1:=by simpa using z
         have M:¬(s.size:Int)=2:=by simpa using v
         have H:¬(s.size:Int)=3:=by simpa using w
         have q4:¬(s.size:Int)=4:=by simpa using x
         have D:¬(s.size:Int)=5:=by simpa using A
         have J:¬(s.size:Int)=6:=by simpa using y
         have P:¬(s.size:Int)=7:=by simpa using B
         have G:¬(s.size:Int)=8:=by simpa using u
         omega
        unfold wH at g;rw[e]at g;exact g
       ·rintro t _ ⟨rfl,d,f⟩
        obtain⟨b,a,hv⟩:=rz (s:=s) (i:=6) (by omega);refine⟨b,by decide,a,by decide,m _ _ ⟨rfl,by omega,?_⟩⟩
        rw[←f,←hv];rfl
      ·rintro t _ ⟨rfl,d,f⟩
       obtain⟨b,a,hv⟩:=rz (s:=s) (i:=5) (by omega);refine⟨b,by decide,a,by decide,k _ _ ⟨rfl,by omega,?_⟩⟩
       rw[←f,←hv];rfl
     ·rintro t _ ⟨rfl,d,f⟩
      obtain⟨b,a,hv⟩:=rz (s:=s) (i:=4) (by omega);refine⟨b,by decide,a,by decide,n _ _ ⟨rfl,by omega,?_⟩⟩
      rw[←f,←hv];rfl
    ·rintro t _ ⟨rfl,d,f⟩
     obtain⟨b,a,hv⟩:=rz (s:=s) (i:=3) (by omega);refine⟨b,by decide,a,by decide,o _ _ ⟨rfl,by omega,?_⟩⟩
     rw[←f,←hv];rfl
   ·rintro t _ ⟨rfl,d,f⟩
    obtain⟨b,a,hv⟩:=rz (s:=s) (i:=2) (by omega);refine⟨b,by decide,a,by decide,p _ _ ⟨rfl,by omega,?_⟩⟩
    rw[←f,←hv];rfl
  ·rintro t _ ⟨rfl,d,f⟩
   obtain⟨b,a,hv⟩:=rz (s:=s) (i:=1) (by omega);refine⟨b,by decide,a,by decide,j _ _ ⟨rfl,by omega,?_⟩⟩
   rw[←f,←hv];rfl
 ·rintro t _ ⟨rfl,d,f⟩
  obtain⟨b,a,hv⟩:=rz (s:=s) (i:=0) (by omega);refine⟨b,by decide,a,?_⟩
  unfold wH at g;rw[←f]at g;rw[←hv];exact g
end Go.Proofs
namespace Go.Proofs
open Go.Lift
def pN(m:Int)(s:Q4):Q4:=
 let r:=nC 2 (s.1,s.2.1,s.2.2.1,df s.2.2.2 m)
 (df r.1 m,r.2)
theorem LN{m:Int}{h:ad}{b:Nat}{t:TypeId}{s:Q4}(d:h[b]? =some (.cells (q4 s) t (0,0))) {K:Unit→ad→Prop}
  (k:∀h',h'[b]? =some (.cells (q4 (pN m s)) t (0,0))→Upd (· =b) h h'→K () h'):HC PG lI [.pointer (some ⟨b,0,none⟩),.int .u64 m] [] K h:=by
 refine AF _ _ ?_;unfold tf bQ dK cV kC;have c:∀{h:ad} {s:Q4} {i:Nat},h[b]? =some (.cells (q4 s) t (0,0))→aM h ⟨b,0+i,none⟩=(q4 s)[i]?:=fun d=>by rw[aE];exact bj d
 have w:∀{h:ad} {s:Q4} {i:Nat},h[b]? =some (.cells (q4 s) t (0,0))→i<4→Wr h ⟨b,0+i,none⟩:=fun d hi=>by rw[aE];exact ia d hi
 simp only[show((0:Int)).toNat*1=0 from rfl,show((3:Int)).toNat*1=3 from rfl]
 refine⟨_,rfl,by decide,_,c (i:=3) d,_,rfl,by decide,w (i:=3) d (by decide),oD (s':=(s.1,s.2.1,s.2.2.1,df s.2.2.2 m)) d rfl fun v j e=>?_⟩
 refine ER (n:=2) (by omega) j fun u a g=>?_
 have p:pN m s=(df (nC 2 (s.1,s.2.1,s.2.2.1,df s.2.2.2 m)).1 m,(nC 2 (s.1,s.2.1,s.2.2.1,df s.2.2.2 m)).2):=by unfold pN;rfl
 rw[p]at k;generalize nC 2 (s.1,s.2.1,s.2.2.1,df s.2.2.2 m)=r at a k;refine⟨_,rfl,by decide,_,c (i:=0) a,_,rfl,by decide,w (i:=0) a (by decide),oD (s':=(df r.1 m,r.2)) a rfl fun q o f=>?_⟩
 exact k _ o (e.tr (g.tr f))
def AX:Nat→ByteArray→Q4→ByteArray×Q4
 |0,s,q=>(s,q)
 |n+1,s,q=>if 8≤s.size then AX n (s.extract 8 s.size) (pN (wH (s.extract 0 8)) q)else(s,q)
def SE(r:Q4):Int:=df (df (df r.1 r.2.1) r.2.2.1) r.2.2.2
def Q8(q:Q4):Int:=SE (nC 4 (q.1,q.2.1,df q.2.2.1 255,q.2.2.2))
def TC(n:Nat)(g:ByteArray×Q4):Int:=Q8 (pN (CQ (wH g.1) (Ru (n:Int) 56)) g.2)
def Jr(k0 k1:Int)(s:ByteArray):Int:=
 TC s.size (AX s.size s (df k0 8317987319222330741,df k1 7237128888997146477,df k0 7816392313619706465,df k1 8387220255154660723))
theorem Q9{a:ad}{b:Nat}{t:TypeId}{r:Q4}(g:a[b]? =some (.cells (q4 r) t (0,0))) {K:Int→Prop} (f:K (SE r)):
  (((0:Int)≤(0:Int)∧(0:Int)<((4:Nat):Int))∧
   ∃v30:Int,aM a (adr ⟨b,0,none⟩ ((0:Int).toNat*1))=some (.int .u64 v30)∧
   (((0:Int)≤(1:Int)∧(1:Int)<((4:Nat):Int))∧
    ∃v31:Int,aM a (adr ⟨b,0,none⟩ ((1:Int).toNat*1))=some (.int .u64 v31)∧
    Bd (IntKind.wrap .u64 (ah (IntKind.bits .u64) v30^^^ah (IntKind.bits .u64) v31).toNat:Int) (fun n32=>
     (((0:Int)≤(2:Int)∧(2:Int)<((4:Nat):Int))∧
      ∃v33:Int,aM a (adr ⟨b,0,none⟩ ((2:Int).toNat*1))=some (.int .u64 v33)∧
      Bd (IntKind.wrap .u64 (ah (IntKind.bits .u64) n32^^^ah (IntKind.bits .u64) v33).toNat:Int) (fun e=>
       (((0:Int)≤(3:Int)∧(3:Int)<((4:Nat):Int))∧
        ∃v35:Int,aM a (adr ⟨b,0,none⟩ ((3:Int).toNat*1))=some (.int .u64 v35)∧
        Bd (IntKind.wrap .u64 (ah (IntKind.bits .u64) e^^^ah (IntKind.bits .u64) v35).toNat:Int) (fun d=>
         K d))))))):=by
 have c:∀{i:Nat},aM a ⟨b,0+i,none⟩=(q4 r)[i]?:=by intro i;rw[aE];exact bj g
 exact⟨by decide,_,c (i:=0),by decide,_,c (i:=1),by decide,_,c (i:=2),by decide,_,c (i:=3),f⟩
theorem Q7{a:ad}{b:Nat}{t:TypeId}{q:Q4}(m:a[b]? =some (.cells (q4 q) t (0,0))) {K:Unit→ad→Prop}
  (p:∀h',h'[b]? =some (.cells (q4 (nC 4 (q.1,q.2.1,df q.2.2.1 255,q.2.2.2))) t (0,0))→Upd (· =b) a h'→K () h'):
  (((0:Int)≤(2:Int)∧(2:Int)<((4:Nat):Int))∧
   ∃v25:Int,aM a (adr ⟨b,0,none⟩ ((2:Int).toNat*1))=some (.int .u64 v25)∧
   Bd (IntKind.wrap .u64 (ah (IntKind.bits .u64) v25^^^ah (IntKind.bits .u64) 255).toNat:Int) (fun j=>
    (((0:Int)≤(2:Int)∧(2:Int)<((4:Nat):Int))∧
     (Wr a (adr ⟨b,0,none⟩ ((2:Int).toNat*1))∧
      At (hset a (adr ⟨b,0,none⟩ ((2:Int).toNat*1)) (.int .u64 j)) (fun d=>
       HC PG ig [.pointer (some ⟨b,0,none⟩),.int .i64 4] [] K d))))):=by
 have c:∀{i:Nat},aM a ⟨b,0+i,none⟩=(q4 q)[i]?:=by intro i;rw[aE];exact bj m
 refine⟨by decide,_,c (i:=2),by decide,by rw[show((2:Int)).toNat*1=2 from rfl,bL];exact ia m (by simp[q4]),?_⟩
 refine oD (s':=(q.1,q.2.1,df q.2.2.1 255,q.2.2.2)) m rfl fun s f g=>?_
 exact ER (n:=4) (by omega) f fun o k e=>p o k (g.tr e)
theorem bT{h:ad}{k:ad→Prop}(a:k h):At h k:=a
theorem R8{k0 k1:Int}{s:ByteArray}{h:ad}{K:Int→ad→Prop}(B:∀p,Upd No h p→K (Jr k0 k1 s) p):HC PG Am [.agg #[.int .u64 k0,.int .u64 k1],.string s] [.c (.int .u64)] K h:=by
 refine NJ (k0,k1) s ?_;unfold FI bQ dK ag cV nv kC TG Mz MC Ql;have u:=Upd.hnew No h [.int .u64 k0,.int .u64 k1] ko;have b1:=cW h [.int .u64 k0,.int .u64 k1] ko;have M:=kA h [.int .u64 k0,.int .u64 k1] ko;refine bT ?_;simp only[fR h];generalize hnew h [.int .u64 k0,.int .u64 k1] ko=h1 at u b1 M;refine⟨k0,by rw[bL,bj b1];rfl,k1,by rw[bL,bj b1];rfl,k0,by rw[bL,bj b1];rfl,k1,by rw[bL,bj b1];rfl,?_⟩
 have L:=Upd.hnew No h1 [.int .u64 0,.int .u64 0,.int .u64 0,.int .u64 0] iH;have b2:=cW h1 [.int .u64 0,.int .u64 0,.int .u64 0,.int .u64 0] iH;simp only[fR h1];simp only[Bd];refine bT ?_;refine⟨.inr ⟨_,rfl,fun j J=>by rw[bL];exact ia b2 (by simp at J⊢;omega)⟩,?_⟩
 refine bT ?_;rw[iB _ _ 0 0 _ b2 (by simp)];have b3:=jL (o:=.cells (q4 (df k0 8317987319222330741,df k1 7237128888997146477,df k0 7816392313619706465,df k1 8387220255154660723)) iH (0,0)) b2;have N:Upd No h _:=u.tr (L.trans (M':=(· =h1.size)) (Upd.set (hnew h1 [.int .u64 0,.int .u64 0,.int .u64 0,.int .u64 0] iH) (.cells (q4 (df k0 8317987319222330741,df k1 7237128888997146477,df k0 7816392313619706465,df k1 8387220255154660723)) iH (0,0)) rfl) fun b d=>.inr (Nat.le_of_eq d.symm))
 refine LoopP.ghost (fun(g:Nat×Q4) (a:ByteArray) p=>a.size≤g.1∧p[h1.size]? =some (.cells (q4 g.2) iH (0,0))∧Upd No h p∧AX g.1 a g.2=AX s.size s (df k0 8317987319222330741,df k1 7237128888997146477,df k0 7816392313619706465,df k1 8387220255154660723)) (fun g=>g.1) (s.size,_)
  ⟨Nat.le_refl _,b3,N,rfl⟩ ?_
 rintro I ⟨n,q⟩ a p ⟨G,d,C,t⟩ H;simp only at G d t;have f:∀b,b=h1.size→No b∨h.size≤b:=fun b d=>.inr (by omega)
 refine aG (fun v=>?_) fun x=>?_
 ·have v:8≤a.size:=by omega
  cases n with
  |zero=>omega
  |succ n=>
   refine⟨by omega,LF (by rw[dV];show min 8 _-0≤8;omega) (LN d fun F e k=>⟨by omega,?_⟩)⟩
   have E:((8:Int)).toNat=8:=rfl;rw[E]at e⊢;refine H (n,pN (wH (a.extract 0 8)) q) _ _ ⟨by simp only[dV];omega,e,C.trans k f,?_⟩ (by simp only;omega);rw[←t];simp only[AX,if_pos v]
 ·have x:a.size<8:=by omega
  have t:(a,q)=AX s.size s (df k0 8317987319222330741,df k1 7237128888997146477,df k0 7816392313619706465,df k1 8387220255154660723):=by
   rw[←t];cases n with
   |zero=>rfl
   |succ n=>simp only[AX,if_neg (show ¬8≤a.size by omega)]
  have c:∀{h:ad} {s:Q4} {i:Nat},h[h1.size]? =some (.cells (q4 s) iH (0,0))→aM h ⟨h1.size,0+i,none⟩=(q4 s)[i]?:=fun d=>by rw[aE];exact bj d
  have w:∀{h:ad} {s:Q4} {i:Nat},h[h1.size]? =some (.cells (q4 s) iH (0,0))→i<4→Wr h ⟨h1.size,0+i,none⟩:=fun d hi=>by rw[aE];exact ia d hi
  have y:Jr k0 k1 s=Q8 (pN (CQ (wH a) (Ru (s.size:Int) 56)) q):=by unfold Jr;rw[←t];rfl
  rw[y]at B;refine LF (by omega) ⟨by decide,LN (m:=CQ (wH a) (Ru (s.size:Int) 56)) d fun F e k=>?_⟩
  refine Q7 e fun D z A=>Q9 (K:=fun n=>K n D) z ?_
  exact B D ((C.trans k f).trans A f)
structure Hs where
 k0:Int
 k1:Int
 mask:Int
def kX(h:Hs)(s:ByteArray):Int:=IC (Jr h.k0 h.k1 s) h.mask
theorem tP{x:Hs}{s:ByteArray}{h:ad}{K:Int→ad→Prop}(c:∀h',Upd No h h'→K (kX x s) h'):HC PG ee [.agg #[.int .u64 x.k0,.int .u64 x.k1,.int .u64 x.mask],.string s] [.c (.int .u64)] K h:=by
 refine y7 (x.k0,x.k1,x.mask) s ?_;unfold rG ag bN Ae Tu;have a:=Upd.hnew No h [.int .u64 x.k0,.int .u64 x.k1,.int .u64 x.mask] cH;have b1:=cW h [.int .u64 x.k0,.int .u64 x.k1,.int .u64 x.mask] cH;simp only[At,fR h];generalize hnew h [.int .u64 x.k0,.int .u64 x.k1,.int .u64 x.mask] cH=h1 at a b1;refine⟨x.k0,by rw[bL,bL,bj b1];rfl,x.k1,by rw[bL,bL,bj b1];rfl,x.mask,by rw[bL,bj b1];rfl,?_⟩
 refine R8 fun d b=>⟨by rw[bL,bj (b.get0 b1)];rfl,c _ (a.tr b)⟩
theorem Be(x:Hs)(s:ByteArray):0≤kX x s∧kX x s<18446744073709551616:=zS _
end Go.Proofs
