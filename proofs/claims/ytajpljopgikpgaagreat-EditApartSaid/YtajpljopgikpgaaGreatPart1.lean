/- A part of the proof that the named laws of this program answer true, whatever the input. -/
import Derived.Test.YtajpljopgikpgaaGreatTreeF0
import Derived.Test.YtajpljopgikpgaaGreatTreeF1
import Derived.Test.YtajpljopgikpgaaGreatPart0
import Derived.Conc.LoneSelect
import Derived.KernelRfl
import Derived.Laws.Rows
open BitVec renaming ofInt→ah,ofInt_natCast→iT,getLsbD_ofNat→iU
open Int renaming fdiv→eL,toNat_natCast→aN
open List renaming range→bW,getElem?_eq_getElem→aj,mem_singleton→ai,mem_cons→ar,length_append→af,replicate→fQ,replicate_succ→jG,length_cons→aL,flatten_append→dD,flatten_cons→dH,flatten_nil→jw,length→gl,take_of_length_le→bc,length_drop→aH,range_add→nP,mem_range→fR,filterMap_append→lC,take_left'→bV,drop_left'→bN,drop_drop→cS
open Nat renaming mod_lt→nN,le_refl→aw,zero_le→bD,testBit_and→hG,testBit_two_pow_sub_one→iz,shiftRight_eq_div_pow→eH,lt_of_le_of_lt→fO,min_eq_left→aW,shiftRight_le→ld,mod_eq_of_lt→eW,testBit_lt_two_pow→eg,lt_of_lt_of_le→bv,pow_le_pow_right→gi
open Option renaming getD_some→lS
open UInt8 renaming ofNat→eC
namespace Go.Proofs
open Go Go.Lift Go.Conc Go.RowKit
theorem rK{w:World}{b i:Nat}{c:Array Value}{t:TypeId}{v:Value}(h:w.heap[b]? =some (.cells c t (0,0))) (hv:c[i]? =some v):w.cell? ⟨b,i,none⟩=some v:=by
 simp only[World.cell?,h];exact hv
theorem Gh{w:World}{b i:Nat}{c:Array Value}{t:TypeId}(h:w.heap[b]? =some (.cells c t (0,0))):w.frozen? ⟨b,i,none⟩=false:=by
 simp only[World.frozen?,h];simp
set_option maxRecDepth 100000 in
theorem FM{w:World}{pb cb cap s r:Nat}{i:Int}{a:List Value}(d:w.heap[pb]? =some (.cells #[.chan (some cb)] 99 (0,0))) (hc:w.heap[cb]? =some (.chan cap (Value.int .i64 i::a).toArray false s r false)):
  Calls Tryz.prog 32 #[.pointer (some ⟨pb,0,none⟩)] w fun e w'=>e=.returned (.tuple #[.pointer (some ⟨w.heap.size,0,none⟩),.int .i64 0])∧w'=((w.setChan cb cap a.toArray false s (r+1) false).alloc (.cells #[.pointer (some ⟨pb,0,none⟩),.int .i64 i,.bool true] 119 (0,0))):=by
 refine calls_of_loneTo fun cs=>?_
 have e:Frame.enter Tryz.prog 32 #[.pointer (some ⟨pb,0,none⟩)] .normal=(base 32).at ⟨#[.pointer (some ⟨pb,0,none⟩),undef,undef,undef,undef,undef,undef,undef,undef,undef,undef,undef,undef,undef,undef,undef,undef,undef,undef],[]⟩ [.code (Tryz.f32.body.getD .skip)]:=by
  simp[Frame.enter,Frame.at,Tryz.func32,base,Tryz.f32]
 rw[e];have aQ:=rK d (i:=0) rfl;have b:(Value.int .i64 i::a).toArray.extract 1 (Value.int .i64 i::a).toArray.size=a.toArray:=by simp
 refine LoneTo.goes (n:=22) ?_;simp only[Tryz.f32,lS];s_c stepG_seq
 s_reg
 s_op
 s_op
 s_c stepG_region_end
 s_c stepG_seq
 s_c stepG_seq
 s_reg
 s_op
 s_op
 s_c stepG_region_end
 s_cond false
 s_c stepG_skip
 s_c stepG_seq
 s_reg
 s_op
 s_op
 s_op
 s_op
 s_c stepG_region_end
 s_c stepG_seq
 s_reg
 s_stop
 refine LoneTo.step (step_lone_select_recv_buf (c:=cb) (z:=.int .i64 0) (stepG_comm (cases:= #[rcase cb (.int .i64 0)]) (blocking:=false) (shape:=.select) (w':=w) rfl rfl (by decide) (by simp[go_sem,execOp,rcase,Act.eval])) hc (by simp)) ?_;rw[b];rw[Frame.finish_at];walk_nrm
 refine LoneTo.goes (n:=20) ?_;s_op
 s_op
 s_c stepG_region_end
 s_c stepG_block
 s_cond true
 s_c stepG_seq
 s_reg
 s_op
 s_op
 s_c stepG_region_end
 s_c stepG_seq
 s_reg
 s_op
 s_op
 s_op
 s_op
 s_op
 s_op
 s_c stepG_region_end
 s_c stepG_ret'
 s_stop
 refine LoneTo.done ⟨.returned (.tuple #[.pointer (some ⟨w.heap.size,0,none⟩),.int .i64 0]),_,rfl,⟨rfl,rfl⟩,rfl,rfl,rfl,rfl,_,Tryz.func32,by simp[results,Tryz.f32,Frame.at,size_setChan]⟩
theorem mkc(w:World)(n:Nat)(h:n≤4096):(Instr.makeChan 97 (.int .i64 n)).run Tryz.prog w=.ok (.chan (some w.heap.size)) (w.alloc (.chan n #[] false 0 0 false)):=by
 have c:Tryz.prog.underlying 97=some (.chan .both 3):=by kernel_rfl
 have b:(Tryz.prog.info? 3).map (·.bytes)=some 8:=by kernel_rfl
 obtain⟨i,hi,a⟩:=Option.map_eq_some_iff.1 b;exact run_makeChan (P:=Tryz.prog) (w:=w) c hi .i64 n (by omega) (by rw[a];omega)
noncomputable abbrev xp:Code:=match Tryz.f18.body with|some (.seq _ (.seq _ (.seq _ (.seq (.seq _ (.block _ (.loop c))) _))))=>c|_=>.skip
noncomputable abbrev A7:Code:=match Tryz.f18.body with|some (.seq _ (.seq _ (.seq _ (.seq _ c))))=>c|_=>.skip
set_option maxRecDepth 100000 in
set_option maxHeartbeats 4000000 in
theorem Hv{n pb cb:Nat}{Q:Goroutine→World→Prop}{cs:List Frame}(M:n≤4096)(C:pb≠cb):∀(m i:Nat) (v g k e o q d f t p:Value) (a:List Value) (s r:Nat) (w:World),i+m=n→a.length=i→w.heap[pb]? =some (.cells #[.chan (some cb)] 99 (0,0))→w.heap[cb]? =some (.chan n a.toArray false s r false)→
  (∀(v g k e o q d f t p:Value) (b:List Value) (s' z:Nat) (w':World),b=a++(bW m).map (fun j=>Value.int .i64 ((i+j:Nat)+1:Int))→(w'=w∨w'=w.setChan cb n b.toArray false s' z false)→w'.heap[cb]? =some (.chan n b.toArray false s' z false)→LoneTo Tryz.prog Q (G ((base 18).at ⟨#[.int .i64 n,undef,.pointer none,.int .i64 0,.pointer (some ⟨pb,0,none⟩),v,.int .i64 n,.bool false,.bool false,.int .i64 n,.bool false,.bool false,.int .i64 n,.chan (some cb),.agg #[.chan (some cb)],.pointer (some ⟨pb,0,none⟩),.int .i64 n,.int .i64 n,g,k,e,o,q,d,f,t,p,undef],[]⟩ [.code A7]) cs) w')→
  LoneTo Tryz.prog Q (G ((base 18).at ⟨#[.int .i64 n,undef,.pointer none,.int .i64 0,.pointer (some ⟨pb,0,none⟩),v,.int .i64 n,.bool false,.bool false,.int .i64 n,.bool false,.bool false,.int .i64 n,.chan (some cb),.agg #[.chan (some cb)],.pointer (some ⟨pb,0,none⟩),.int .i64 n,.int .i64 i,g,k,e,o,q,d,f,t,p,undef],[]⟩ [.code xp,.inLoop xp,.inBlock 0,.code A7]) cs) w:=by
 intro m;induction m with
 |zero=>
  intro i v g k e o q d f t p a s r w u A E hc B;have u:i=n:=by omega
  subst u;have D:¬((i:Int)<(i:Int)):=by omega
  refine LoneTo.goes (n:=9) ?_;simp only[xp,Tryz.f18];s_c stepG_seq
  s_reg
  s_op
  s_c stepG_region_end
  s_c stepG_seq
  s_cond false
  s_exit
  s_stop
  exact B _ _ _ _ _ _ _ _ _ _ a s r w (by simp) (.inl rfl) hc
 |succ m ih=>
  intro i v g k e o q d f t p a s r w u A E hc B;have D:((i:Int)<(n:Int)):=by omega
  have aQ:=rK E (i:=0) rfl;have H:IntKind.wrap .i64 ((i:Int)+1)=((i+1:Nat):Int):=by rw[nT (by omega)];omega
  refine LoneTo.goes (n:=21) ?_;simp only[xp,Tryz.f18];s_c stepG_seq
  s_reg
  s_op
  s_c stepG_region_end
  s_c stepG_seq
  s_cond true
  s_c stepG_skip
  s_c stepG_seq
  s_c stepG_block
  s_c stepG_seq
  s_reg
  s_op
  s_op
  s_c stepG_region_end
  s_reg
  s_op
  s_op
  s_op
  s_op
  s_op
  s_op
  s_stop
  refine LoneTo.step (step_lone_send_room (c:=cb) (cap:=n) (buf:=a.toArray) (s:=s) (r:=r) (tm:=false) (stepG_comm (cases:= #[scase cb (.int .i64 ((i:Int)+1)) (.tuple #[])]) (blocking:=true) (shape:=.send) (w':=w) rfl rfl (by decide) (by simp[execOp,scase,Act.eval])) hc (by simp[A];omega)) ?_;rw[Frame.finish_at];walk_nrm
  have hz:cb<w.heap.size:=(Array.getElem?_eq_some_iff.1 hc).1;refine LoneTo.goes (n:=7) ?_;s_c stepG_region_end
  s_c stepG_inBlock
  s_reg
  s_op
  s_op
  s_c stepG_region_end
  s_c stepG_inLoop
  s_stop
  have L:((i:Int)+1)=((i+1:Nat):Int):=by omega
  rw[L];refine ih (i+1) _ _ _ _ _ _ _ _ _ _ (a++ [Value.int .i64 ((i+1:Nat):Int)]) (s+1) r (w.setChan cb n (a++ [Value.int .i64 ((i+1:Nat):Int)]).toArray false (s+1) r false) (by omega) (by simp[A]) ?_ (heap_setChan _ _ _ _ _ _ _ _ hz) fun v g k e o q d f t p b s' z w' F x y=>B v g k e o q d f t p b s' z w' ?_ (.inr ?_) y
  ·simp only[World.setChan,Array.getElem?_setIfInBounds]
   rw[if_neg (Ne.symm C)];exact E
  ·rw[F,List.range_succ_eq_map]
   simp[Nat.add_comm,Nat.add_left_comm,Function.comp_def]
  ·rcases x with x|x
   ·subst x
    rw[heap_setChan _ _ _ _ _ _ _ _ hz]at y;simp only[Option.some.injEq,Obj.chan.injEq]at y;obtain⟨_,K,_,I,J,_⟩:=y;rw[K,I,J]
   ·rw[x];simp[World.setChan]
set_option maxRecDepth 100000 in
set_option maxHeartbeats 4000000 in
theorem Hu{n:Nat}{w:World}(z:1≤n)(b:n≤4096):Calls Tryz.prog 18 #[.int .i64 n] w fun e w'=>e=.returned (.tuple #[.pointer (some ⟨w.heap.size+1,0,none⟩),.int .i64 0])∧∃(a:List Value) (s r:Nat),a=(bW n).map (fun j=>Value.int .i64 ((0+j:Nat)+1:Int))∧w'.heap[w.heap.size]? =some (.chan n a.toArray false s r false)∧(w'=(w.alloc (.chan n #[] false 0 0 false)).alloc (.cells #[.chan (some w.heap.size)] 99 (0,0))∨w'=((w.alloc (.chan n #[] false 0 0 false)).alloc (.cells #[.chan (some w.heap.size)] 99 (0,0))).setChan w.heap.size n a.toArray false s r false):=by
 refine calls_of_loneTo fun cs=>?_
 have e:Frame.enter Tryz.prog 18 #[.int .i64 n] .normal=(base 18).at ⟨#[.int .i64 n,undef,undef,undef,undef,undef,undef,undef,undef,undef,undef,undef,undef,undef,undef,undef,undef,undef,undef,undef,undef,undef,undef,undef,undef,undef,undef,undef],[]⟩ [.code (Tryz.f18.body.getD .skip)]:=by
  simp[Frame.enter,Frame.at,Tryz.func18,base,Tryz.f18]
 rw[e];have x:=fun w=>mkc w n b
 have c1:¬((n:Int)<1):=by omega
 have c2:¬(4096<(n:Int)):=by omega
 refine LoneTo.goes (n:=33) ?_;simp only[Tryz.f18,lS];s_c stepG_seq
 s_reg
 s_op
 s_op
 s_c stepG_region_end
 s_c stepG_seq
 s_c stepG_seq
 s_reg
 s_op
 s_op
 s_op
 s_op
 s_op
 s_op
 s_c stepG_region_end
 s_cond false
 s_c stepG_skip
 s_c stepG_seq
 s_reg
 s_op
 s_op
 s_op
 s_op
 s_op
 s_c stepG_region_end
 s_c stepG_seq
 s_c stepG_seq
 s_reg
 s_op
 s_op
 s_c stepG_region_end
 s_c stepG_block
 s_c stepG_loop
 s_stop
 have q:((w.alloc (.chan n #[] false 0 0 false)).alloc (.cells #[.chan (some w.heap.size)] 99 (0,0))).heap[w.heap.size+1]? =some (.cells #[.chan (some w.heap.size)] 99 (0,0)):=by
  have:=heap_alloc_new (w.alloc (.chan n #[] false 0 0 false)) (.cells #[.chan (some w.heap.size)] 99 (0,0));simpa using this
 have v:((w.alloc (.chan n #[] false 0 0 false)).alloc (.cells #[.chan (some w.heap.size)] 99 (0,0))).heap[w.heap.size]? =some (.chan n #[] false 0 0 false):=by
  show((w.heap.push (.chan n #[] false 0 0 false)).push (.cells #[.chan (some w.heap.size)] 99 (0,0)))[w.heap.size]? =_
  simp[Array.getElem?_push]
 refine Hv b (by omega) n 0 _ _ _ _ _ _ _ _ _ _ [] 0 0 _ (by omega) rfl q v fun A i k d m u c f y o a s r w' g p t=>?_
 refine LoneTo.goes (n:=7) ?_;simp only[A7,Tryz.f18];s_c stepG_seq
 s_reg
 s_op
 s_op
 s_op
 s_c stepG_region_end
 s_c stepG_ret'
 s_stop
 refine LoneTo.done ⟨.returned (.tuple #[.pointer (some ⟨w.heap.size+1,0,none⟩),.int .i64 0]),_,rfl,⟨rfl,a,s,r,by simpa[bW]using g,t,p⟩,rfl,rfl,rfl,rfl,_,Tryz.func18,by simp[results,Tryz.f18,Frame.at]⟩
theorem dM{md:Region.Mode}{ops:Array Oper}{fuel t:Nat}{listed:Array Bool}{rs:List Nat}(d:Region.ready md ops listed=rs)(b:rs≠[]):∃i∈rs,∃t',Region.linearise.go md ops (fuel+1) t listed []=i::Region.linearise.go md ops fuel t' (listed.setIfInBounds i true) []:=by
 subst d;simp only[Region.linearise.go];change∃i∈Region.ready md ops listed,∃t',(match(Region.ready md ops listed)[t%(Region.ready md ops listed).length]? with
  |some i=>Region.linearise.go md ops fuel (t/(Region.ready md ops listed).length) (listed.setIfInBounds i true) [i]
  |none=> [].reverse)=i::Region.linearise.go md ops fuel t' (listed.setIfInBounds i true) []
 have c:0<(Region.ready md ops listed).length:=List.length_pos_iff.2 b;have a:t%(Region.ready md ops listed).length<(Region.ready md ops listed).length:=nN _ c;rw[aj a];refine⟨_,List.getElem_mem a,t/(Region.ready md ops listed).length,?_⟩;simp only[];rw[linearise_go_acc];rfl
noncomputable abbrev aB:Array Oper:=match Tryz.f39.body with|some (.seq _ (.seq _ (.seq _ (.seq (.region _ o _) _))))=>o|_=> #[]
section
variable {pb tb cb:Nat} {id:Int} {u2 u3 u4 u5 u6 u7 u8 u9 u10 u11 u12 u13 u14 u15 u16 u17 u18 u19 u20 u21 u22:Value} {Q:Goroutine→World→Prop} {cs:List Frame} {kk:List Item} {w:World}
set_option maxRecDepth 100000
theorem HQ(c:w.cell? ⟨pb,0,none⟩=some (.chan (some cb)))(d:w.cell? ⟨tb,1,none⟩=some (.int .i64 id))(a:∀t,LoneTo Tryz.prog Q (G ((base 39).at ⟨#[.pointer (some ⟨pb,0,none⟩),.pointer (some ⟨tb,0,none⟩),u2,u3,u4,u5,u6,u7,u8,u9,u10,u11,u12,u13,u14,u15,u16,u17,u18,u19,u20,u21,u22,.pointer (some ⟨pb,0,none⟩),.pointer (some ⟨pb,0,none⟩),.pointer (some ⟨pb,0,none⟩),.chan (some cb),.pointer (some ⟨tb,0,none⟩),.pointer (some ⟨tb,0,none⟩),.pointer (some ⟨tb,1,none⟩),.int .i64 id],[]⟩ (.inRegion aB (Region.linearise.go .any aB 1 t #[true,true,true,true,true,true,true,true,false] [])::kk)) cs) w)(t:Nat):LoneTo Tryz.prog Q (G ((base 39).at ⟨#[.pointer (some ⟨pb,0,none⟩),.pointer (some ⟨tb,0,none⟩),u2,u3,u4,u5,u6,u7,u8,u9,u10,u11,u12,u13,u14,u15,u16,u17,u18,u19,u20,u21,u22,.pointer (some ⟨pb,0,none⟩),.pointer (some ⟨pb,0,none⟩),.pointer (some ⟨pb,0,none⟩),.chan (some cb),.pointer (some ⟨tb,0,none⟩),.pointer (some ⟨tb,0,none⟩),.pointer (some ⟨tb,1,none⟩),undef],[]⟩ (.inRegion aB (Region.linearise.go .any aB 2 t #[true,true,true,true,true,true,true,false,false] [])::kk)) cs) w:=by
 obtain⟨i,hi,b,e⟩:=dM (md:=.any) (ops:=aB) (fuel:=1) (t:=t) (listed:= #[true,true,true,true,true,true,true,false,false]) (rs:= [7]) (by kernel_rfl) (by simp);rw[e];rw[ai.1 hi];refine LoneTo.goes (n:=1) ?_;simp only[aB,Tryz.f39];s_op
 s_stop
 exact a b
theorem HT(c:w.cell? ⟨pb,0,none⟩=some (.chan (some cb)))(d:w.cell? ⟨tb,1,none⟩=some (.int .i64 id))(a:∀t,LoneTo Tryz.prog Q (G ((base 39).at ⟨#[.pointer (some ⟨pb,0,none⟩),.pointer (some ⟨tb,0,none⟩),u2,u3,u4,u5,u6,u7,u8,u9,u10,u11,u12,u13,u14,u15,u16,u17,u18,u19,u20,u21,u22,.pointer (some ⟨pb,0,none⟩),.pointer (some ⟨pb,0,none⟩),.pointer (some ⟨pb,0,none⟩),.chan (some cb),.pointer (some ⟨tb,0,none⟩),.pointer (some ⟨tb,0,none⟩),.pointer (some ⟨tb,1,none⟩),.int .i64 id],[]⟩ (.inRegion aB (Region.linearise.go .any aB 1 t #[true,true,true,true,true,true,true,true,false] [])::kk)) cs) w)(t:Nat):LoneTo Tryz.prog Q (G ((base 39).at ⟨#[.pointer (some ⟨pb,0,none⟩),.pointer (some ⟨tb,0,none⟩),u2,u3,u4,u5,u6,u7,u8,u9,u10,u11,u12,u13,u14,u15,u16,u17,u18,u19,u20,u21,u22,.pointer (some ⟨pb,0,none⟩),.pointer (some ⟨pb,0,none⟩),.pointer (some ⟨pb,0,none⟩),undef,.pointer (some ⟨tb,0,none⟩),.pointer (some ⟨tb,0,none⟩),.pointer (some ⟨tb,1,none⟩),.int .i64 id],[]⟩ (.inRegion aB (Region.linearise.go .any aB 2 t #[true,true,true,false,true,true,true,true,false] [])::kk)) cs) w:=by
 obtain⟨i,hi,b,e⟩:=dM (md:=.any) (ops:=aB) (fuel:=1) (t:=t) (listed:= #[true,true,true,false,true,true,true,true,false]) (rs:= [3]) (by kernel_rfl) (by simp);rw[e];rw[ai.1 hi];refine LoneTo.goes (n:=1) ?_;simp only[aB,Tryz.f39];s_op
 s_stop
 exact a b
theorem HR(a:w.cell? ⟨pb,0,none⟩=some (.chan (some cb)))(d:w.cell? ⟨tb,1,none⟩=some (.int .i64 id))(b:∀t,LoneTo Tryz.prog Q (G ((base 39).at ⟨#[.pointer (some ⟨pb,0,none⟩),.pointer (some ⟨tb,0,none⟩),u2,u3,u4,u5,u6,u7,u8,u9,u10,u11,u12,u13,u14,u15,u16,u17,u18,u19,u20,u21,u22,.pointer (some ⟨pb,0,none⟩),.pointer (some ⟨pb,0,none⟩),.pointer (some ⟨pb,0,none⟩),.chan (some cb),.pointer (some ⟨tb,0,none⟩),.pointer (some ⟨tb,0,none⟩),.pointer (some ⟨tb,1,none⟩),.int .i64 id],[]⟩ (.inRegion aB (Region.linearise.go .any aB 1 t #[true,true,true,true,true,true,true,true,false] [])::kk)) cs) w)(t:Nat):LoneTo Tryz.prog Q (G ((base 39).at ⟨#[.pointer (some ⟨pb,0,none⟩),.pointer (some ⟨tb,0,none⟩),u2,u3,u4,u5,u6,u7,u8,u9,u10,u11,u12,u13,u14,u15,u16,u17,u18,u19,u20,u21,u22,.pointer (some ⟨pb,0,none⟩),.pointer (some ⟨pb,0,none⟩),.pointer (some ⟨pb,0,none⟩),.chan (some cb),.pointer (some ⟨tb,0,none⟩),.pointer (some ⟨tb,0,none⟩),undef,undef],[]⟩ (.inRegion aB (Region.linearise.go .any aB 3 t #[true,true,true,true,true,true,false,false,false] [])::kk)) cs) w:=by
 obtain⟨i,hi,c,e⟩:=dM (md:=.any) (ops:=aB) (fuel:=2) (t:=t) (listed:= #[true,true,true,true,true,true,false,false,false]) (rs:= [6]) (by kernel_rfl) (by simp);rw[e];rw[ai.1 hi];refine LoneTo.goes (n:=1) ?_;simp only[aB,Tryz.f39];s_op
 s_stop
 exact HQ a d b c
theorem HU(a:w.cell? ⟨pb,0,none⟩=some (.chan (some cb)))(d:w.cell? ⟨tb,1,none⟩=some (.int .i64 id))(b:∀t,LoneTo Tryz.prog Q (G ((base 39).at ⟨#[.pointer (some ⟨pb,0,none⟩),.pointer (some ⟨tb,0,none⟩),u2,u3,u4,u5,u6,u7,u8,u9,u10,u11,u12,u13,u14,u15,u16,u17,u18,u19,u20,u21,u22,.pointer (some ⟨pb,0,none⟩),.pointer (some ⟨pb,0,none⟩),.pointer (some ⟨pb,0,none⟩),.chan (some cb),.pointer (some ⟨tb,0,none⟩),.pointer (some ⟨tb,0,none⟩),.pointer (some ⟨tb,1,none⟩),.int .i64 id],[]⟩ (.inRegion aB (Region.linearise.go .any aB 1 t #[true,true,true,true,true,true,true,true,false] [])::kk)) cs) w)(t:Nat):LoneTo Tryz.prog Q (G ((base 39).at ⟨#[.pointer (some ⟨pb,0,none⟩),.pointer (some ⟨tb,0,none⟩),u2,u3,u4,u5,u6,u7,u8,u9,u10,u11,u12,u13,u14,u15,u16,u17,u18,u19,u20,u21,u22,.pointer (some ⟨pb,0,none⟩),.pointer (some ⟨pb,0,none⟩),.pointer (some ⟨pb,0,none⟩),undef,.pointer (some ⟨tb,0,none⟩),.pointer (some ⟨tb,0,none⟩),.pointer (some ⟨tb,1,none⟩),undef],[]⟩ (.inRegion aB (Region.linearise.go .any aB 3 t #[true,true,true,false,true,true,true,false,false] [])::kk)) cs) w:=by
 obtain⟨i,hi,c,e⟩:=dM (md:=.any) (ops:=aB) (fuel:=2) (t:=t) (listed:= #[true,true,true,false,true,true,true,false,false]) (rs:= [3,7]) (by kernel_rfl) (by simp);rw[e];rcases ar.1 hi with rfl|hi
 ·skip
  refine LoneTo.goes (n:=1) ?_;simp only[aB,Tryz.f39];s_op
  s_stop
  exact HQ a d b c
 ·rw[ai.1 hi]
  refine LoneTo.goes (n:=1) ?_;simp only[aB,Tryz.f39];s_op
  s_stop
  exact HT a d b c
theorem HZ(a:w.cell? ⟨pb,0,none⟩=some (.chan (some cb)))(d:w.cell? ⟨tb,1,none⟩=some (.int .i64 id))(b:∀t,LoneTo Tryz.prog Q (G ((base 39).at ⟨#[.pointer (some ⟨pb,0,none⟩),.pointer (some ⟨tb,0,none⟩),u2,u3,u4,u5,u6,u7,u8,u9,u10,u11,u12,u13,u14,u15,u16,u17,u18,u19,u20,u21,u22,.pointer (some ⟨pb,0,none⟩),.pointer (some ⟨pb,0,none⟩),.pointer (some ⟨pb,0,none⟩),.chan (some cb),.pointer (some ⟨tb,0,none⟩),.pointer (some ⟨tb,0,none⟩),.pointer (some ⟨tb,1,none⟩),.int .i64 id],[]⟩ (.inRegion aB (Region.linearise.go .any aB 1 t #[true,true,true,true,true,true,true,true,false] [])::kk)) cs) w)(t:Nat):LoneTo Tryz.prog Q (G ((base 39).at ⟨#[.pointer (some ⟨pb,0,none⟩),.pointer (some ⟨tb,0,none⟩),u2,u3,u4,u5,u6,u7,u8,u9,u10,u11,u12,u13,u14,u15,u16,u17,u18,u19,u20,u21,u22,.pointer (some ⟨pb,0,none⟩),.pointer (some ⟨pb,0,none⟩),undef,undef,.pointer (some ⟨tb,0,none⟩),.pointer (some ⟨tb,0,none⟩),.pointer (some ⟨tb,1,none⟩),.int .i64 id],[]⟩ (.inRegion aB (Region.linearise.go .any aB 3 t #[true,true,false,false,true,true,true,true,false] [])::kk)) cs) w:=by
 obtain⟨i,hi,c,e⟩:=dM (md:=.any) (ops:=aB) (fuel:=2) (t:=t) (listed:= #[true,true,false,false,true,true,true,true,false]) (rs:= [2]) (by kernel_rfl) (by simp);rw[e];rw[ai.1 hi];refine LoneTo.goes (n:=1) ?_;simp only[aB,Tryz.f39];s_op
 s_stop
 exact HT a d b c
theorem HS(a:w.cell? ⟨pb,0,none⟩=some (.chan (some cb)))(d:w.cell? ⟨tb,1,none⟩=some (.int .i64 id))(b:∀t,LoneTo Tryz.prog Q (G ((base 39).at ⟨#[.pointer (some ⟨pb,0,none⟩),.pointer (some ⟨tb,0,none⟩),u2,u3,u4,u5,u6,u7,u8,u9,u10,u11,u12,u13,u14,u15,u16,u17,u18,u19,u20,u21,u22,.pointer (some ⟨pb,0,none⟩),.pointer (some ⟨pb,0,none⟩),.pointer (some ⟨pb,0,none⟩),.chan (some cb),.pointer (some ⟨tb,0,none⟩),.pointer (some ⟨tb,0,none⟩),.pointer (some ⟨tb,1,none⟩),.int .i64 id],[]⟩ (.inRegion aB (Region.linearise.go .any aB 1 t #[true,true,true,true,true,true,true,true,false] [])::kk)) cs) w)(t:Nat):LoneTo Tryz.prog Q (G ((base 39).at ⟨#[.pointer (some ⟨pb,0,none⟩),.pointer (some ⟨tb,0,none⟩),u2,u3,u4,u5,u6,u7,u8,u9,u10,u11,u12,u13,u14,u15,u16,u17,u18,u19,u20,u21,u22,.pointer (some ⟨pb,0,none⟩),.pointer (some ⟨pb,0,none⟩),.pointer (some ⟨pb,0,none⟩),.chan (some cb),.pointer (some ⟨tb,0,none⟩),undef,undef,undef],[]⟩ (.inRegion aB (Region.linearise.go .any aB 4 t #[true,true,true,true,true,false,false,false,false] [])::kk)) cs) w:=by
 obtain⟨i,hi,c,e⟩:=dM (md:=.any) (ops:=aB) (fuel:=3) (t:=t) (listed:= #[true,true,true,true,true,false,false,false,false]) (rs:= [5]) (by kernel_rfl) (by simp);rw[e];rw[ai.1 hi];refine LoneTo.goes (n:=1) ?_;simp only[aB,Tryz.f39];s_op
 s_stop
 exact HR a d b c
theorem HW(a:w.cell? ⟨pb,0,none⟩=some (.chan (some cb)))(d:w.cell? ⟨tb,1,none⟩=some (.int .i64 id))(b:∀t,LoneTo Tryz.prog Q (G ((base 39).at ⟨#[.pointer (some ⟨pb,0,none⟩),.pointer (some ⟨tb,0,none⟩),u2,u3,u4,u5,u6,u7,u8,u9,u10,u11,u12,u13,u14,u15,u16,u17,u18,u19,u20,u21,u22,.pointer (some ⟨pb,0,none⟩),.pointer (some ⟨pb,0,none⟩),.pointer (some ⟨pb,0,none⟩),.chan (some cb),.pointer (some ⟨tb,0,none⟩),.pointer (some ⟨tb,0,none⟩),.pointer (some ⟨tb,1,none⟩),.int .i64 id],[]⟩ (.inRegion aB (Region.linearise.go .any aB 1 t #[true,true,true,true,true,true,true,true,false] [])::kk)) cs) w)(t:Nat):LoneTo Tryz.prog Q (G ((base 39).at ⟨#[.pointer (some ⟨pb,0,none⟩),.pointer (some ⟨tb,0,none⟩),u2,u3,u4,u5,u6,u7,u8,u9,u10,u11,u12,u13,u14,u15,u16,u17,u18,u19,u20,u21,u22,.pointer (some ⟨pb,0,none⟩),.pointer (some ⟨pb,0,none⟩),.pointer (some ⟨pb,0,none⟩),undef,.pointer (some ⟨tb,0,none⟩),.pointer (some ⟨tb,0,none⟩),undef,undef],[]⟩ (.inRegion aB (Region.linearise.go .any aB 4 t #[true,true,true,false,true,true,false,false,false] [])::kk)) cs) w:=by
 obtain⟨i,hi,c,e⟩:=dM (md:=.any) (ops:=aB) (fuel:=3) (t:=t) (listed:= #[true,true,true,false,true,true,false,false,false]) (rs:= [3,6]) (by kernel_rfl) (by simp);rw[e];rcases ar.1 hi with rfl|hi
 ·skip
  refine LoneTo.goes (n:=1) ?_;simp only[aB,Tryz.f39];s_op
  s_stop
  exact HR a d b c
 ·rw[ai.1 hi]
  refine LoneTo.goes (n:=1) ?_;simp only[aB,Tryz.f39];s_op
  s_stop
  exact HU a d b c
theorem H0(a:w.cell? ⟨pb,0,none⟩=some (.chan (some cb)))(d:w.cell? ⟨tb,1,none⟩=some (.int .i64 id))(b:∀t,LoneTo Tryz.prog Q (G ((base 39).at ⟨#[.pointer (some ⟨pb,0,none⟩),.pointer (some ⟨tb,0,none⟩),u2,u3,u4,u5,u6,u7,u8,u9,u10,u11,u12,u13,u14,u15,u16,u17,u18,u19,u20,u21,u22,.pointer (some ⟨pb,0,none⟩),.pointer (some ⟨pb,0,none⟩),.pointer (some ⟨pb,0,none⟩),.chan (some cb),.pointer (some ⟨tb,0,none⟩),.pointer (some ⟨tb,0,none⟩),.pointer (some ⟨tb,1,none⟩),.int .i64 id],[]⟩ (.inRegion aB (Region.linearise.go .any aB 1 t #[true,true,true,true,true,true,true,true,false] [])::kk)) cs) w)(t:Nat):LoneTo Tryz.prog Q (G ((base 39).at ⟨#[.pointer (some ⟨pb,0,none⟩),.pointer (some ⟨tb,0,none⟩),u2,u3,u4,u5,u6,u7,u8,u9,u10,u11,u12,u13,u14,u15,u16,u17,u18,u19,u20,u21,u22,.pointer (some ⟨pb,0,none⟩),.pointer (some ⟨pb,0,none⟩),undef,undef,.pointer (some ⟨tb,0,none⟩),.pointer (some ⟨tb,0,none⟩),.pointer (some ⟨tb,1,none⟩),undef],[]⟩ (.inRegion aB (Region.linearise.go .any aB 4 t #[true,true,false,false,true,true,true,false,false] [])::kk)) cs) w:=by
 obtain⟨i,hi,c,e⟩:=dM (md:=.any) (ops:=aB) (fuel:=3) (t:=t) (listed:= #[true,true,false,false,true,true,true,false,false]) (rs:= [2,7]) (by kernel_rfl) (by simp);rw[e];rcases ar.1 hi with rfl|hi
 ·skip
  refine LoneTo.goes (n:=1) ?_;simp only[aB,Tryz.f39];s_op
  s_stop
  exact HU a d b c
 ·rw[ai.1 hi]
  refine LoneTo.goes (n:=1) ?_;simp only[aB,Tryz.f39];s_op
  s_stop
  exact HZ a d b c
theorem H3(a:w.cell? ⟨pb,0,none⟩=some (.chan (some cb)))(d:w.cell? ⟨tb,1,none⟩=some (.int .i64 id))(b:∀t,LoneTo Tryz.prog Q (G ((base 39).at ⟨#[.pointer (some ⟨pb,0,none⟩),.pointer (some ⟨tb,0,none⟩),u2,u3,u4,u5,u6,u7,u8,u9,u10,u11,u12,u13,u14,u15,u16,u17,u18,u19,u20,u21,u22,.pointer (some ⟨pb,0,none⟩),.pointer (some ⟨pb,0,none⟩),.pointer (some ⟨pb,0,none⟩),.chan (some cb),.pointer (some ⟨tb,0,none⟩),.pointer (some ⟨tb,0,none⟩),.pointer (some ⟨tb,1,none⟩),.int .i64 id],[]⟩ (.inRegion aB (Region.linearise.go .any aB 1 t #[true,true,true,true,true,true,true,true,false] [])::kk)) cs) w)(t:Nat):LoneTo Tryz.prog Q (G ((base 39).at ⟨#[.pointer (some ⟨pb,0,none⟩),.pointer (some ⟨tb,0,none⟩),u2,u3,u4,u5,u6,u7,u8,u9,u10,u11,u12,u13,u14,u15,u16,u17,u18,u19,u20,u21,u22,.pointer (some ⟨pb,0,none⟩),undef,undef,undef,.pointer (some ⟨tb,0,none⟩),.pointer (some ⟨tb,0,none⟩),.pointer (some ⟨tb,1,none⟩),.int .i64 id],[]⟩ (.inRegion aB (Region.linearise.go .any aB 4 t #[true,false,false,false,true,true,true,true,false] [])::kk)) cs) w:=by
 obtain⟨i,hi,c,e⟩:=dM (md:=.any) (ops:=aB) (fuel:=3) (t:=t) (listed:= #[true,false,false,false,true,true,true,true,false]) (rs:= [1]) (by kernel_rfl) (by simp);rw[e];rw[ai.1 hi];refine LoneTo.goes (n:=1) ?_;simp only[aB,Tryz.f39];s_op
 s_stop
 exact HZ a d b c
theorem Ks(a:w.cell? ⟨pb,0,none⟩=some (.chan (some cb)))(d:w.cell? ⟨tb,1,none⟩=some (.int .i64 id))(b:∀t,LoneTo Tryz.prog Q (G ((base 39).at ⟨#[.pointer (some ⟨pb,0,none⟩),.pointer (some ⟨tb,0,none⟩),u2,u3,u4,u5,u6,u7,u8,u9,u10,u11,u12,u13,u14,u15,u16,u17,u18,u19,u20,u21,u22,.pointer (some ⟨pb,0,none⟩),.pointer (some ⟨pb,0,none⟩),.pointer (some ⟨pb,0,none⟩),.chan (some cb),.pointer (some ⟨tb,0,none⟩),.pointer (some ⟨tb,0,none⟩),.pointer (some ⟨tb,1,none⟩),.int .i64 id],[]⟩ (.inRegion aB (Region.linearise.go .any aB 1 t #[true,true,true,true,true,true,true,true,false] [])::kk)) cs) w)(t:Nat):LoneTo Tryz.prog Q (G ((base 39).at ⟨#[.pointer (some ⟨pb,0,none⟩),.pointer (some ⟨tb,0,none⟩),u2,u3,u4,u5,u6,u7,u8,u9,u10,u11,u12,u13,u14,u15,u16,u17,u18,u19,u20,u21,u22,.pointer (some ⟨pb,0,none⟩),.pointer (some ⟨pb,0,none⟩),.pointer (some ⟨pb,0,none⟩),.chan (some cb),undef,undef,undef,undef],[]⟩ (.inRegion aB (Region.linearise.go .any aB 5 t #[true,true,true,true,false,false,false,false,false] [])::kk)) cs) w:=by
 obtain⟨i,hi,c,e⟩:=dM (md:=.any) (ops:=aB) (fuel:=4) (t:=t) (listed:= #[true,true,true,true,false,false,false,false,false]) (rs:= [4]) (by kernel_rfl) (by simp);rw[e];rw[ai.1 hi];refine LoneTo.goes (n:=1) ?_;simp only[aB,Tryz.f39];s_op
 s_stop
 exact HS a d b c
theorem HX(a:w.cell? ⟨pb,0,none⟩=some (.chan (some cb)))(d:w.cell? ⟨tb,1,none⟩=some (.int .i64 id))(b:∀t,LoneTo Tryz.prog Q (G ((base 39).at ⟨#[.pointer (some ⟨pb,0,none⟩),.pointer (some ⟨tb,0,none⟩),u2,u3,u4,u5,u6,u7,u8,u9,u10,u11,u12,u13,u14,u15,u16,u17,u18,u19,u20,u21,u22,.pointer (some ⟨pb,0,none⟩),.pointer (some ⟨pb,0,none⟩),.pointer (some ⟨pb,0,none⟩),.chan (some cb),.pointer (some ⟨tb,0,none⟩),.pointer (some ⟨tb,0,none⟩),.pointer (some ⟨tb,1,none⟩),.int .i64 id],[]⟩ (.inRegion aB (Region.linearise.go .any aB 1 t #[true,true,true,true,true,true,true,true,false] [])::kk)) cs) w)(t:Nat):LoneTo Tryz.prog Q (G ((base 39).at ⟨#[.pointer (some ⟨pb,0,none⟩),.pointer (some ⟨tb,0,none⟩),u2,u3,u4,u5,u6,u7,u8,u9,u10,u11,u12,u13,u14,u15,u16,u17,u18,u19,u20,u21,u22,.pointer (some ⟨pb,0,none⟩),.pointer (some ⟨pb,0,none⟩),.pointer (some ⟨pb,0,none⟩),undef,.pointer (some ⟨tb,0,none⟩),undef,undef,undef],[]⟩ (.inRegion aB (Region.linearise.go .any aB 5 t #[true,true,true,false,true,false,false,false,false] [])::kk)) cs) w:=by
 obtain⟨i,hi,c,e⟩:=dM (md:=.any) (ops:=aB) (fuel:=4) (t:=t) (listed:= #[true,true,true,false,true,false,false,false,false]) (rs:= [3,5]) (by kernel_rfl) (by simp);rw[e];rcases ar.1 hi with rfl|hi
 ·skip
  refine LoneTo.goes (n:=1) ?_;simp only[aB,Tryz.f39];s_op
  s_stop
  exact HS a d b c
 ·rw[ai.1 hi]
  refine LoneTo.goes (n:=1) ?_;simp only[aB,Tryz.f39];s_op
  s_stop
  exact HW a d b c
theorem H1(a:w.cell? ⟨pb,0,none⟩=some (.chan (some cb)))(d:w.cell? ⟨tb,1,none⟩=some (.int .i64 id))(b:∀t,LoneTo Tryz.prog Q (G ((base 39).at ⟨#[.pointer (some ⟨pb,0,none⟩),.pointer (some ⟨tb,0,none⟩),u2,u3,u4,u5,u6,u7,u8,u9,u10,u11,u12,u13,u14,u15,u16,u17,u18,u19,u20,u21,u22,.pointer (some ⟨pb,0,none⟩),.pointer (some ⟨pb,0,none⟩),.pointer (some ⟨pb,0,none⟩),.chan (some cb),.pointer (some ⟨tb,0,none⟩),.pointer (some ⟨tb,0,none⟩),.pointer (some ⟨tb,1,none⟩),.int .i64 id],[]⟩ (.inRegion aB (Region.linearise.go .any aB 1 t #[true,true,true,true,true,true,true,true,false] [])::kk)) cs) w)(t:Nat):LoneTo Tryz.prog Q (G ((base 39).at ⟨#[.pointer (some ⟨pb,0,none⟩),.pointer (some ⟨tb,0,none⟩),u2,u3,u4,u5,u6,u7,u8,u9,u10,u11,u12,u13,u14,u15,u16,u17,u18,u19,u20,u21,u22,.pointer (some ⟨pb,0,none⟩),.pointer (some ⟨pb,0,none⟩),undef,undef,.pointer (some ⟨tb,0,none⟩),.pointer (some ⟨tb,0,none⟩),undef,undef],[]⟩ (.inRegion aB (Region.linearise.go .any aB 5 t #[true,true,false,false,true,true,false,false,false] [])::kk)) cs) w:=by
 obtain⟨i,hi,c,e⟩:=dM (md:=.any) (ops:=aB) (fuel:=4) (t:=t) (listed:= #[true,true,false,false,true,true,false,false,false]) (rs:= [2,6]) (by kernel_rfl) (by simp);rw[e];rcases ar.1 hi with rfl|hi
 ·skip
  refine LoneTo.goes (n:=1) ?_;simp only[aB,Tryz.f39];s_op
  s_stop
  exact HW a d b c
 ·rw[ai.1 hi]
  refine LoneTo.goes (n:=1) ?_;simp only[aB,Tryz.f39];s_op
  s_stop
  exact H0 a d b c
theorem H4(a:w.cell? ⟨pb,0,none⟩=some (.chan (some cb)))(d:w.cell? ⟨tb,1,none⟩=some (.int .i64 id))(b:∀t,LoneTo Tryz.prog Q (G ((base 39).at ⟨#[.pointer (some ⟨pb,0,none⟩),.pointer (some ⟨tb,0,none⟩),u2,u3,u4,u5,u6,u7,u8,u9,u10,u11,u12,u13,u14,u15,u16,u17,u18,u19,u20,u21,u22,.pointer (some ⟨pb,0,none⟩),.pointer (some ⟨pb,0,none⟩),.pointer (some ⟨pb,0,none⟩),.chan (some cb),.pointer (some ⟨tb,0,none⟩),.pointer (some ⟨tb,0,none⟩),.pointer (some ⟨tb,1,none⟩),.int .i64 id],[]⟩ (.inRegion aB (Region.linearise.go .any aB 1 t #[true,true,true,true,true,true,true,true,false] [])::kk)) cs) w)(t:Nat):LoneTo Tryz.prog Q (G ((base 39).at ⟨#[.pointer (some ⟨pb,0,none⟩),.pointer (some ⟨tb,0,none⟩),u2,u3,u4,u5,u6,u7,u8,u9,u10,u11,u12,u13,u14,u15,u16,u17,u18,u19,u20,u21,u22,.pointer (some ⟨pb,0,none⟩),undef,undef,undef,.pointer (some ⟨tb,0,none⟩),.pointer (some ⟨tb,0,none⟩),.pointer (some ⟨tb,1,none⟩),undef],[]⟩ (.inRegion aB (Region.linearise.go .any aB 5 t #[true,false,false,false,true,true,true,false,false] [])::kk)) cs) w:=by
 obtain⟨i,hi,c,e⟩:=dM (md:=.any) (ops:=aB) (fuel:=4) (t:=t) (listed:= #[true,false,false,false,true,true,true,false,false]) (rs:= [1,7]) (by kernel_rfl) (by simp);rw[e];rcases ar.1 hi with rfl|hi
 ·skip
  refine LoneTo.goes (n:=1) ?_;simp only[aB,Tryz.f39];s_op
  s_stop
  exact H0 a d b c
 ·rw[ai.1 hi]
  refine LoneTo.goes (n:=1) ?_;simp only[aB,Tryz.f39];s_op
  s_stop
  exact H3 a d b c
theorem Kw(a:w.cell? ⟨pb,0,none⟩=some (.chan (some cb)))(d:w.cell? ⟨tb,1,none⟩=some (.int .i64 id))(b:∀t,LoneTo Tryz.prog Q (G ((base 39).at ⟨#[.pointer (some ⟨pb,0,none⟩),.pointer (some ⟨tb,0,none⟩),u2,u3,u4,u5,u6,u7,u8,u9,u10,u11,u12,u13,u14,u15,u16,u17,u18,u19,u20,u21,u22,.pointer (some ⟨pb,0,none⟩),.pointer (some ⟨pb,0,none⟩),.pointer (some ⟨pb,0,none⟩),.chan (some cb),.pointer (some ⟨tb,0,none⟩),.pointer (some ⟨tb,0,none⟩),.pointer (some ⟨tb,1,none⟩),.int .i64 id],[]⟩ (.inRegion aB (Region.linearise.go .any aB 1 t #[true,true,true,true,true,true,true,true,false] [])::kk)) cs) w)(t:Nat):LoneTo Tryz.prog Q (G ((base 39).at ⟨#[.pointer (some ⟨pb,0,none⟩),.pointer (some ⟨tb,0,none⟩),u2,u3,u4,u5,u6,u7,u8,u9,u10,u11,u12,u13,u14,u15,u16,u17,u18,u19,u20,u21,u22,undef,undef,undef,undef,.pointer (some ⟨tb,0,none⟩),.pointer (some ⟨tb,0,none⟩),.pointer (some ⟨tb,1,none⟩),.int .i64 id],[]⟩ (.inRegion aB (Region.linearise.go .any aB 5 t #[false,false,false,false,true,true,true,true,false] [])::kk)) cs) w:=by
 obtain⟨i,hi,c,e⟩:=dM (md:=.any) (ops:=aB) (fuel:=4) (t:=t) (listed:= #[false,false,false,false,true,true,true,true,false]) (rs:= [0]) (by kernel_rfl) (by simp);rw[e];rw[ai.1 hi];refine LoneTo.goes (n:=1) ?_;simp only[aB,Tryz.f39];s_op
 s_stop
 exact H3 a d b c
theorem Kt(a:w.cell? ⟨pb,0,none⟩=some (.chan (some cb)))(d:w.cell? ⟨tb,1,none⟩=some (.int .i64 id))(b:∀t,LoneTo Tryz.prog Q (G ((base 39).at ⟨#[.pointer (some ⟨pb,0,none⟩),.pointer (some ⟨tb,0,none⟩),u2,u3,u4,u5,u6,u7,u8,u9,u10,u11,u12,u13,u14,u15,u16,u17,u18,u19,u20,u21,u22,.pointer (some ⟨pb,0,none⟩),.pointer (some ⟨pb,0,none⟩),.pointer (some ⟨pb,0,none⟩),.chan (some cb),.pointer (some ⟨tb,0,none⟩),.pointer (some ⟨tb,0,none⟩),.pointer (some ⟨tb,1,none⟩),.int .i64 id],[]⟩ (.inRegion aB (Region.linearise.go .any aB 1 t #[true,true,true,true,true,true,true,true,false] [])::kk)) cs) w)(t:Nat):LoneTo Tryz.prog Q (G ((base 39).at ⟨#[.pointer (some ⟨pb,0,none⟩),.pointer (some ⟨tb,0,none⟩),u2,u3,u4,u5,u6,u7,u8,u9,u10,u11,u12,u13,u14,u15,u16,u17,u18,u19,u20,u21,u22,.pointer (some ⟨pb,0,none⟩),.pointer (some ⟨pb,0,none⟩),.pointer (some ⟨pb,0,none⟩),undef,undef,undef,undef,undef],[]⟩ (.inRegion aB (Region.linearise.go .any aB 6 t #[true,true,true,false,false,false,false,false,false] [])::kk)) cs) w:=by
 obtain⟨i,hi,c,e⟩:=dM (md:=.any) (ops:=aB) (fuel:=5) (t:=t) (listed:= #[true,true,true,false,false,false,false,false,false]) (rs:= [3,4]) (by kernel_rfl) (by simp);rw[e];rcases ar.1 hi with rfl|hi
 ·skip
  refine LoneTo.goes (n:=1) ?_;simp only[aB,Tryz.f39];s_op
  s_stop
  exact Ks a d b c
 ·rw[ai.1 hi]
  refine LoneTo.goes (n:=1) ?_;simp only[aB,Tryz.f39];s_op
  s_stop
  exact HX a d b c
theorem H2(a:w.cell? ⟨pb,0,none⟩=some (.chan (some cb)))(d:w.cell? ⟨tb,1,none⟩=some (.int .i64 id))(b:∀t,LoneTo Tryz.prog Q (G ((base 39).at ⟨#[.pointer (some ⟨pb,0,none⟩),.pointer (some ⟨tb,0,none⟩),u2,u3,u4,u5,u6,u7,u8,u9,u10,u11,u12,u13,u14,u15,u16,u17,u18,u19,u20,u21,u22,.pointer (some ⟨pb,0,none⟩),.pointer (some ⟨pb,0,none⟩),.pointer (some ⟨pb,0,none⟩),.chan (some cb),.pointer (some ⟨tb,0,none⟩),.pointer (some ⟨tb,0,none⟩),.pointer (some ⟨tb,1,none⟩),.int .i64 id],[]⟩ (.inRegion aB (Region.linearise.go .any aB 1 t #[true,true,true,true,true,true,true,true,false] [])::kk)) cs) w)(t:Nat):LoneTo Tryz.prog Q (G ((base 39).at ⟨#[.pointer (some ⟨pb,0,none⟩),.pointer (some ⟨tb,0,none⟩),u2,u3,u4,u5,u6,u7,u8,u9,u10,u11,u12,u13,u14,u15,u16,u17,u18,u19,u20,u21,u22,.pointer (some ⟨pb,0,none⟩),.pointer (some ⟨pb,0,none⟩),undef,undef,.pointer (some ⟨tb,0,none⟩),undef,undef,undef],[]⟩ (.inRegion aB (Region.linearise.go .any aB 6 t #[true,true,false,false,true,false,false,false,false] [])::kk)) cs) w:=by
 obtain⟨i,hi,c,e⟩:=dM (md:=.any) (ops:=aB) (fuel:=5) (t:=t) (listed:= #[true,true,false,false,true,false,false,false,false]) (rs:= [2,5]) (by kernel_rfl) (by simp);rw[e];rcases ar.1 hi with rfl|hi
 ·skip
  refine LoneTo.goes (n:=1) ?_;simp only[aB,Tryz.f39];s_op
  s_stop
  exact HX a d b c
 ·rw[ai.1 hi]
  refine LoneTo.goes (n:=1) ?_;simp only[aB,Tryz.f39];s_op
  s_stop
  exact H1 a d b c
theorem H5(a:w.cell? ⟨pb,0,none⟩=some (.chan (some cb)))(d:w.cell? ⟨tb,1,none⟩=some (.int .i64 id))(b:∀t,LoneTo Tryz.prog Q (G ((base 39).at ⟨#[.pointer (some ⟨pb,0,none⟩),.pointer (some ⟨tb,0,none⟩),u2,u3,u4,u5,u6,u7,u8,u9,u10,u11,u12,u13,u14,u15,u16,u17,u18,u19,u20,u21,u22,.pointer (some ⟨pb,0,none⟩),.pointer (some ⟨pb,0,none⟩),.pointer (some ⟨pb,0,none⟩),.chan (some cb),.pointer (some ⟨tb,0,none⟩),.pointer (some ⟨tb,0,none⟩),.pointer (some ⟨tb,1,none⟩),.int .i64 id],[]⟩ (.inRegion aB (Region.linearise.go .any aB 1 t #[true,true,true,true,true,true,true,true,false] [])::kk)) cs) w)(t:Nat):LoneTo Tryz.prog Q (G ((base 39).at ⟨#[.pointer (some ⟨pb,0,none⟩),.pointer (some ⟨tb,0,none⟩),u2,u3,u4,u5,u6,u7,u8,u9,u10,u11,u12,u13,u14,u15,u16,u17,u18,u19,u20,u21,u22,.pointer (some ⟨pb,0,none⟩),undef,undef,undef,.pointer (some ⟨tb,0,none⟩),.pointer (some ⟨tb,0,none⟩),undef,undef],[]⟩ (.inRegion aB (Region.linearise.go .any aB 6 t #[true,false,false,false,true,true,false,false,false] [])::kk)) cs) w:=by
 obtain⟨i,hi,c,e⟩:=dM (md:=.any) (ops:=aB) (fuel:=5) (t:=t) (listed:= #[true,false,false,false,true,true,false,false,false]) (rs:= [1,6]) (by kernel_rfl) (by simp);rw[e];rcases ar.1 hi with rfl|hi
 ·skip
  refine LoneTo.goes (n:=1) ?_;simp only[aB,Tryz.f39];s_op
  s_stop
  exact H1 a d b c
 ·rw[ai.1 hi]
  refine LoneTo.goes (n:=1) ?_;simp only[aB,Tryz.f39];s_op
  s_stop
  exact H4 a d b c
theorem Ky(a:w.cell? ⟨pb,0,none⟩=some (.chan (some cb)))(d:w.cell? ⟨tb,1,none⟩=some (.int .i64 id))(b:∀t,LoneTo Tryz.prog Q (G ((base 39).at ⟨#[.pointer (some ⟨pb,0,none⟩),.pointer (some ⟨tb,0,none⟩),u2,u3,u4,u5,u6,u7,u8,u9,u10,u11,u12,u13,u14,u15,u16,u17,u18,u19,u20,u21,u22,.pointer (some ⟨pb,0,none⟩),.pointer (some ⟨pb,0,none⟩),.pointer (some ⟨pb,0,none⟩),.chan (some cb),.pointer (some ⟨tb,0,none⟩),.pointer (some ⟨tb,0,none⟩),.pointer (some ⟨tb,1,none⟩),.int .i64 id],[]⟩ (.inRegion aB (Region.linearise.go .any aB 1 t #[true,true,true,true,true,true,true,true,false] [])::kk)) cs) w)(t:Nat):LoneTo Tryz.prog Q (G ((base 39).at ⟨#[.pointer (some ⟨pb,0,none⟩),.pointer (some ⟨tb,0,none⟩),u2,u3,u4,u5,u6,u7,u8,u9,u10,u11,u12,u13,u14,u15,u16,u17,u18,u19,u20,u21,u22,undef,undef,undef,undef,.pointer (some ⟨tb,0,none⟩),.pointer (some ⟨tb,0,none⟩),.pointer (some ⟨tb,1,none⟩),undef],[]⟩ (.inRegion aB (Region.linearise.go .any aB 6 t #[false,false,false,false,true,true,true,false,false] [])::kk)) cs) w:=by
 obtain⟨i,hi,c,e⟩:=dM (md:=.any) (ops:=aB) (fuel:=5) (t:=t) (listed:= #[false,false,false,false,true,true,true,false,false]) (rs:= [0,7]) (by kernel_rfl) (by simp);rw[e];rcases ar.1 hi with rfl|hi
 ·skip
  refine LoneTo.goes (n:=1) ?_;simp only[aB,Tryz.f39];s_op
  s_stop
  exact H4 a d b c
 ·rw[ai.1 hi]
  refine LoneTo.goes (n:=1) ?_;simp only[aB,Tryz.f39];s_op
  s_stop
  exact Kw a d b c
theorem Ku(a:w.cell? ⟨pb,0,none⟩=some (.chan (some cb)))(d:w.cell? ⟨tb,1,none⟩=some (.int .i64 id))(b:∀t,LoneTo Tryz.prog Q (G ((base 39).at ⟨#[.pointer (some ⟨pb,0,none⟩),.pointer (some ⟨tb,0,none⟩),u2,u3,u4,u5,u6,u7,u8,u9,u10,u11,u12,u13,u14,u15,u16,u17,u18,u19,u20,u21,u22,.pointer (some ⟨pb,0,none⟩),.pointer (some ⟨pb,0,none⟩),.pointer (some ⟨pb,0,none⟩),.chan (some cb),.pointer (some ⟨tb,0,none⟩),.pointer (some ⟨tb,0,none⟩),.pointer (some ⟨tb,1,none⟩),.int .i64 id],[]⟩ (.inRegion aB (Region.linearise.go .any aB 1 t #[true,true,true,true,true,true,true,true,false] [])::kk)) cs) w)(t:Nat):LoneTo Tryz.prog Q (G ((base 39).at ⟨#[.pointer (some ⟨pb,0,none⟩),.pointer (some ⟨tb,0,none⟩),u2,u3,u4,u5,u6,u7,u8,u9,u10,u11,u12,u13,u14,u15,u16,u17,u18,u19,u20,u21,u22,.pointer (some ⟨pb,0,none⟩),.pointer (some ⟨pb,0,none⟩),undef,undef,undef,undef,undef,undef],[]⟩ (.inRegion aB (Region.linearise.go .any aB 7 t #[true,true,false,false,false,false,false,false,false] [])::kk)) cs) w:=by
 obtain⟨i,hi,c,e⟩:=dM (md:=.any) (ops:=aB) (fuel:=6) (t:=t) (listed:= #[true,true,false,false,false,false,false,false,false]) (rs:= [2,4]) (by kernel_rfl) (by simp);rw[e];rcases ar.1 hi with rfl|hi
 ·skip
  refine LoneTo.goes (n:=1) ?_;simp only[aB,Tryz.f39];s_op
  s_stop
  exact Kt a d b c
 ·rw[ai.1 hi]
  refine LoneTo.goes (n:=1) ?_;simp only[aB,Tryz.f39];s_op
  s_stop
  exact H2 a d b c
theorem H6(a:w.cell? ⟨pb,0,none⟩=some (.chan (some cb)))(d:w.cell? ⟨tb,1,none⟩=some (.int .i64 id))(b:∀t,LoneTo Tryz.prog Q (G ((base 39).at ⟨#[.pointer (some ⟨pb,0,none⟩),.pointer (some ⟨tb,0,none⟩),u2,u3,u4,u5,u6,u7,u8,u9,u10,u11,u12,u13,u14,u15,u16,u17,u18,u19,u20,u21,u22,.pointer (some ⟨pb,0,none⟩),.pointer (some ⟨pb,0,none⟩),.pointer (some ⟨pb,0,none⟩),.chan (some cb),.pointer (some ⟨tb,0,none⟩),.pointer (some ⟨tb,0,none⟩),.pointer (some ⟨tb,1,none⟩),.int .i64 id],[]⟩ (.inRegion aB (Region.linearise.go .any aB 1 t #[true,true,true,true,true,true,true,true,false] [])::kk)) cs) w)(t:Nat):LoneTo Tryz.prog Q (G ((base 39).at ⟨#[.pointer (some ⟨pb,0,none⟩),.pointer (some ⟨tb,0,none⟩),u2,u3,u4,u5,u6,u7,u8,u9,u10,u11,u12,u13,u14,u15,u16,u17,u18,u19,u20,u21,u22,.pointer (some ⟨pb,0,none⟩),undef,undef,undef,.pointer (some ⟨tb,0,none⟩),undef,undef,undef],[]⟩ (.inRegion aB (Region.linearise.go .any aB 7 t #[true,false,false,false,true,false,false,false,false] [])::kk)) cs) w:=by
 obtain⟨i,hi,c,e⟩:=dM (md:=.any) (ops:=aB) (fuel:=6) (t:=t) (listed:= #[true,false,false,false,true,false,false,false,false]) (rs:= [1,5]) (by kernel_rfl) (by simp);rw[e];rcases ar.1 hi with rfl|hi
 ·skip
  refine LoneTo.goes (n:=1) ?_;simp only[aB,Tryz.f39];s_op
  s_stop
  exact H2 a d b c
 ·rw[ai.1 hi]
  refine LoneTo.goes (n:=1) ?_;simp only[aB,Tryz.f39];s_op
  s_stop
  exact H5 a d b c
theorem Kz(a:w.cell? ⟨pb,0,none⟩=some (.chan (some cb)))(d:w.cell? ⟨tb,1,none⟩=some (.int .i64 id))(b:∀t,LoneTo Tryz.prog Q (G ((base 39).at ⟨#[.pointer (some ⟨pb,0,none⟩),.pointer (some ⟨tb,0,none⟩),u2,u3,u4,u5,u6,u7,u8,u9,u10,u11,u12,u13,u14,u15,u16,u17,u18,u19,u20,u21,u22,.pointer (some ⟨pb,0,none⟩),.pointer (some ⟨pb,0,none⟩),.pointer (some ⟨pb,0,none⟩),.chan (some cb),.pointer (some ⟨tb,0,none⟩),.pointer (some ⟨tb,0,none⟩),.pointer (some ⟨tb,1,none⟩),.int .i64 id],[]⟩ (.inRegion aB (Region.linearise.go .any aB 1 t #[true,true,true,true,true,true,true,true,false] [])::kk)) cs) w)(t:Nat):LoneTo Tryz.prog Q (G ((base 39).at ⟨#[.pointer (some ⟨pb,0,none⟩),.pointer (some ⟨tb,0,none⟩),u2,u3,u4,u5,u6,u7,u8,u9,u10,u11,u12,u13,u14,u15,u16,u17,u18,u19,u20,u21,u22,undef,undef,undef,undef,.pointer (some ⟨tb,0,none⟩),.pointer (some ⟨tb,0,none⟩),undef,undef],[]⟩ (.inRegion aB (Region.linearise.go .any aB 7 t #[false,false,false,false,true,true,false,false,false] [])::kk)) cs) w:=by
 obtain⟨i,hi,c,e⟩:=dM (md:=.any) (ops:=aB) (fuel:=6) (t:=t) (listed:= #[false,false,false,false,true,true,false,false,false]) (rs:= [0,6]) (by kernel_rfl) (by simp);rw[e];rcases ar.1 hi with rfl|hi
 ·skip
  refine LoneTo.goes (n:=1) ?_;simp only[aB,Tryz.f39];s_op
  s_stop
  exact H5 a d b c
 ·rw[ai.1 hi]
  refine LoneTo.goes (n:=1) ?_;simp only[aB,Tryz.f39];s_op
  s_stop
  exact Ky a d b c
theorem Kv(a:w.cell? ⟨pb,0,none⟩=some (.chan (some cb)))(d:w.cell? ⟨tb,1,none⟩=some (.int .i64 id))(b:∀t,LoneTo Tryz.prog Q (G ((base 39).at ⟨#[.pointer (some ⟨pb,0,none⟩),.pointer (some ⟨tb,0,none⟩),u2,u3,u4,u5,u6,u7,u8,u9,u10,u11,u12,u13,u14,u15,u16,u17,u18,u19,u20,u21,u22,.pointer (some ⟨pb,0,none⟩),.pointer (some ⟨pb,0,none⟩),.pointer (some ⟨pb,0,none⟩),.chan (some cb),.pointer (some ⟨tb,0,none⟩),.pointer (some ⟨tb,0,none⟩),.pointer (some ⟨tb,1,none⟩),.int .i64 id],[]⟩ (.inRegion aB (Region.linearise.go .any aB 1 t #[true,true,true,true,true,true,true,true,false] [])::kk)) cs) w)(t:Nat):LoneTo Tryz.prog Q (G ((base 39).at ⟨#[.pointer (some ⟨pb,0,none⟩),.pointer (some ⟨tb,0,none⟩),u2,u3,u4,u5,u6,u7,u8,u9,u10,u11,u12,u13,u14,u15,u16,u17,u18,u19,u20,u21,u22,.pointer (some ⟨pb,0,none⟩),undef,undef,undef,undef,undef,undef,undef],[]⟩ (.inRegion aB (Region.linearise.go .any aB 8 t #[true,false,false,false,false,false,false,false,false] [])::kk)) cs) w:=by
 obtain⟨i,hi,c,e⟩:=dM (md:=.any) (ops:=aB) (fuel:=7) (t:=t) (listed:= #[true,false,false,false,false,false,false,false,false]) (rs:= [1,4]) (by kernel_rfl) (by simp);rw[e];rcases ar.1 hi with rfl|hi
 ·skip
  refine LoneTo.goes (n:=1) ?_;simp only[aB,Tryz.f39];s_op
  s_stop
  exact Ku a d b c
 ·rw[ai.1 hi]
  refine LoneTo.goes (n:=1) ?_;simp only[aB,Tryz.f39];s_op
  s_stop
  exact H6 a d b c
theorem KA(a:w.cell? ⟨pb,0,none⟩=some (.chan (some cb)))(d:w.cell? ⟨tb,1,none⟩=some (.int .i64 id))(b:∀t,LoneTo Tryz.prog Q (G ((base 39).at ⟨#[.pointer (some ⟨pb,0,none⟩),.pointer (some ⟨tb,0,none⟩),u2,u3,u4,u5,u6,u7,u8,u9,u10,u11,u12,u13,u14,u15,u16,u17,u18,u19,u20,u21,u22,.pointer (some ⟨pb,0,none⟩),.pointer (some ⟨pb,0,none⟩),.pointer (some ⟨pb,0,none⟩),.chan (some cb),.pointer (some ⟨tb,0,none⟩),.pointer (some ⟨tb,0,none⟩),.pointer (some ⟨tb,1,none⟩),.int .i64 id],[]⟩ (.inRegion aB (Region.linearise.go .any aB 1 t #[true,true,true,true,true,true,true,true,false] [])::kk)) cs) w)(t:Nat):LoneTo Tryz.prog Q (G ((base 39).at ⟨#[.pointer (some ⟨pb,0,none⟩),.pointer (some ⟨tb,0,none⟩),u2,u3,u4,u5,u6,u7,u8,u9,u10,u11,u12,u13,u14,u15,u16,u17,u18,u19,u20,u21,u22,undef,undef,undef,undef,.pointer (some ⟨tb,0,none⟩),undef,undef,undef],[]⟩ (.inRegion aB (Region.linearise.go .any aB 8 t #[false,false,false,false,true,false,false,false,false] [])::kk)) cs) w:=by
 obtain⟨i,hi,c,e⟩:=dM (md:=.any) (ops:=aB) (fuel:=7) (t:=t) (listed:= #[false,false,false,false,true,false,false,false,false]) (rs:= [0,5]) (by kernel_rfl) (by simp);rw[e];rcases ar.1 hi with rfl|hi
 ·skip
  refine LoneTo.goes (n:=1) ?_;simp only[aB,Tryz.f39];s_op
  s_stop
  exact H6 a d b c
 ·rw[ai.1 hi]
  refine LoneTo.goes (n:=1) ?_;simp only[aB,Tryz.f39];s_op
  s_stop
  exact Kz a d b c
theorem KB(a:w.cell? ⟨pb,0,none⟩=some (.chan (some cb)))(d:w.cell? ⟨tb,1,none⟩=some (.int .i64 id))(b:∀t,LoneTo Tryz.prog Q (G ((base 39).at ⟨#[.pointer (some ⟨pb,0,none⟩),.pointer (some ⟨tb,0,none⟩),u2,u3,u4,u5,u6,u7,u8,u9,u10,u11,u12,u13,u14,u15,u16,u17,u18,u19,u20,u21,u22,.pointer (some ⟨pb,0,none⟩),.pointer (some ⟨pb,0,none⟩),.pointer (some ⟨pb,0,none⟩),.chan (some cb),.pointer (some ⟨tb,0,none⟩),.pointer (some ⟨tb,0,none⟩),.pointer (some ⟨tb,1,none⟩),.int .i64 id],[]⟩ (.inRegion aB (Region.linearise.go .any aB 1 t #[true,true,true,true,true,true,true,true,false] [])::kk)) cs) w)(t:Nat):LoneTo Tryz.prog Q (G ((base 39).at ⟨#[.pointer (some ⟨pb,0,none⟩),.pointer (some ⟨tb,0,none⟩),u2,u3,u4,u5,u6,u7,u8,u9,u10,u11,u12,u13,u14,u15,u16,u17,u18,u19,u20,u21,u22,undef,undef,undef,undef,undef,undef,undef,undef],[]⟩ (.inRegion aB (Region.linearise.go .any aB 9 t #[false,false,false,false,false,false,false,false,false] [])::kk)) cs) w:=by
 obtain⟨i,hi,c,e⟩:=dM (md:=.any) (ops:=aB) (fuel:=8) (t:=t) (listed:= #[false,false,false,false,false,false,false,false,false]) (rs:= [0,4]) (by kernel_rfl) (by simp);rw[e];rcases ar.1 hi with rfl|hi
 ·skip
  refine LoneTo.goes (n:=1) ?_;simp only[aB,Tryz.f39];s_op
  s_stop
  exact Kv a d b c
 ·rw[ai.1 hi]
  refine LoneTo.goes (n:=1) ?_;simp only[aB,Tryz.f39];s_op
  s_stop
  exact KA a d b c
end
theorem Dk{P:Program}{c:Bool}{b:Frame}{a:Act}{k:List Item}{cs:List Frame}{w:World}{id:Nat}{ops:Array Oper}:stepG P c (G (b.at a (.code (.region id ops true)::k)) cs) w=.go (G (b.at a (.inRegion ops (Region.schedule (P.follows .mixedOrders) ops (w.tape w.drawn (.order b.fn id)))::k)) cs) {w with drawn:=w.drawn+1}:=by
 simp[G,stepG,stepG.exec,Frame.at,choose,Sem.run,Question.forced,Question.cut]
set_option maxRecDepth 100000 in
theorem Hx{w:World}{b:Nat}{c:Array Value}{t:TypeId}(j:w.heap[b]? =some (.cells c t (0,0))) (hc:0<c.size):(binOp .neq 39 (.pointer (some ⟨b,0,none⟩)) (.pointer (some ⟨b,0,none⟩))).run Tryz.prog w=.ok (.bool false) w:=by
 have d:Tryz.prog.underlying 39=some (.pointer 99):=by kernel_rfl
 have hz:Nat.beq (bo Tryz.prog 99) 0=false:=by kernel_rfl
 have e:de w.heap ⟨b,0,none⟩:=⟨c,t,j,hc⟩;have h:JH Tryz.prog 39 true (.pointer (some ⟨b,0,none⟩)) (.pointer (some ⟨b,0,none⟩)) (fun v _=>v=.bool false) w.heap:=by
  unfold JH;rw[d];simp only[];rw[hz];refine⟨trivial,fun x y hx f=>?_,by simp⟩
  cases hx;cases f;exact⟨e,e⟩
 unfold JH at h;rw[d]at h;obtain⟨_,a,_⟩:=h;obtain⟨_,_,v,S,g,m,k⟩:=vB (P:=Tryz.prog) (t:=39) (neg:=true) (x:=.pointer (some ⟨b,0,none⟩)) (y:=.pointer (some ⟨b,0,none⟩)) (K:=fun v S=>v=.bool false∧Iu S w.heap) (h:=w.heap) (by
  unfold JH
  rw[d]
  simp only[]
  rw[hz]
  exact⟨trivial,a,by simp,a⟩)
 obtain⟨rfl,i⟩:=g;exact k w i
set_option maxRecDepth 100000 in
set_option maxHeartbeats 4000000 in
theorem HP{w:World}{pb tb cb cap s r:Nat}{id:Int}{buf:Array Value}(m:w.heap[pb]? =some (.cells #[.chan (some cb)] 99 (0,0))) (b:w.heap[tb]? =some (.cells #[.pointer (some ⟨pb,0,none⟩),.int .i64 id,.bool true] 119 (0,0))) (hc:w.heap[cb]? =some (.chan cap buf false s r false)) (q:buf.size<cap) (d:pb≠tb) (g:cb≠tb):
  Calls Tryz.prog 39 #[.pointer (some ⟨pb,0,none⟩),.pointer (some ⟨tb,0,none⟩)] w fun e w'=>e=.returned (.int .i64 0)∧∃n,w'=({w.setCell ⟨tb,2,none⟩ (.bool false)with drawn:=n}:World).setChan cb cap (buf.push (.int .i64 id)) false (s+1) r false:=by
 refine calls_of_loneTo fun cs=>?_
 have e:Frame.enter Tryz.prog 39 #[.pointer (some ⟨pb,0,none⟩),.pointer (some ⟨tb,0,none⟩)] .normal=(base 39).at ⟨#[.pointer (some ⟨pb,0,none⟩),.pointer (some ⟨tb,0,none⟩),undef,undef,undef,undef,undef,undef,undef,undef,undef,undef,undef,undef,undef,undef,undef,undef,undef,undef,undef,undef,undef,undef,undef,undef,undef,undef,undef,undef,undef],[]⟩ [.code (Tryz.f39.body.getD .skip)]:=by
  simp[Frame.enter,Frame.at,Tryz.func39,base,Tryz.f39]
 rw[e];have v:=rK b (i:=0) rfl;have u:=rK b (i:=2) rfl;have o:=Gh b (i:=2);have p:=Hx m (by simp);refine LoneTo.goes (n:=52) ?_;simp only[Tryz.f39,lS];s_c stepG_seq
 s_reg
 s_op
 s_c stepG_region_end
 s_c stepG_seq
 s_c stepG_seq
 s_reg
 s_op
 s_op
 s_op
 s_op
 s_call Tryz.func44 (by kernel_rfl) Tryz.f44
 s_c stepG_seq
 s_reg
 s_op
 s_c stepG_region_end
 s_c stepG_seq
 s_reg
 s_op
 s_op
 s_op
 s_op
 s_op
 s_op
 s_op
 s_op
 s_op
 s_c stepG_region_end
 s_c stepG_ret'
 s_leave1 Tryz.func44
 s_op
 s_op
 s_op
 s_op
 s_op
 s_op
 s_op
 s_op
 s_op
 s_op
 s_c stepG_region_end
 s_cond false
 s_c stepG_skip
 s_c stepG_seq
 s_reg
 s_op
 s_op
 s_op
 s_op
 s_c stepG_region_end
 s_c stepG_seq
 s_in
 rw[Dk];simp only[goes_go];refine⟨trivial,?_⟩;s_stop
 have hm:Tryz.prog.follows .mixedOrders=true:=Tryz.mixed;simp only[Region.schedule,hm,Bool.true_or,if_true,Region.linearise];have k:=Upd.hset (M:=(· =tb)) w.heap (a:=⟨tb,2,none⟩) (.bool false) rfl
 have j:=k.get m (fun e=>d e)
 have f:=k.get hc (fun e=>g e)
 refine KB (pb:=pb) (tb:=tb) (cb:=cb) (id:=id) (rK j (i:=0) rfl) ?_ (fun t=>?_) _
 ·show(w.setCell ⟨tb,2,none⟩ (.bool false)).cell? ⟨tb,1,none⟩=_
  rw[World.cell?_setCell_other _ _ _ _ (by simp)];exact rK b (i:=1) rfl
 ·obtain⟨i,hi,x,e⟩:=dM (md:=.any) (ops:=aB) (fuel:=0) (t:=t) (listed:= #[true,true,true,true,true,true,true,true,false]) (rs:= [8]) (by kernel_rfl) (by simp)
  rw[e,ai.1 hi];simp only[aB,Tryz.f39,Region.linearise.go,List.reverse_nil];refine LoneTo.step (step_lone_send_room (c:=cb) (cap:=cap) (buf:=buf) (s:=s) (r:=r) (tm:=false) (stepG_comm (cases:= #[scase cb (.int .i64 id) (.tuple #[])]) (blocking:=true) (shape:=.send) (w':={w.setCell ⟨tb,2,none⟩ (.bool false)with drawn:=w.drawn+1}) rfl rfl (by decide) (by simp[execOp,scase,Act.eval])) f q) ?_
  rw[Frame.finish_at];walk_nrm
  refine LoneTo.goes (n:=6) ?_;s_c stepG_region_end
  s_c stepG_seq
  s_reg
  s_op
  s_c stepG_region_end
  s_c stepG_ret'
  s_stop
  refine LoneTo.done ⟨.returned (.int .i64 0),_,rfl,⟨rfl,_,rfl⟩,rfl,rfl,rfl,rfl,_,Tryz.func39,by simp[results,Tryz.f39,Frame.at]⟩
end Go.Proofs
namespace Go.Proofs
open Go.Lift
theorem OwnS.zero{α:Type}{f:α→List Value}{c:Nat}{t:TypeId}{M:Nat→Prop}{h:ae}{s:SliceV}{xs:List α}(d:OwnS f c t M h s xs):OwnS f c t M h ⟨aM s.a 0 s.cap c,0-0,s.cap-0⟩ []:=by
 have g:∀x,(f x).length=c∧0<c:=d.ne;have e:=d.len;have i:=d.cap;refine⟨rfl,g,by simp only;omega,?_⟩
 rcases d.blk with n|⟨b,a,j,m,hc,k⟩
 ·exact .inl (by simp only;omega)
 ·refine .inr ⟨b,xs.flatMap f++a,by rw[j,sub_zero],m,hc,?_⟩
  rw[af,gQ g,k,←Nat.add_mul];simp only;congr 1;omega
def BJ:Pr:=(⟨#[]⟩,⟨#[]⟩)
theorem EN(n:Nat):cA n [.string (⟨#[]⟩:ByteArray),.string (⟨#[]⟩:ByteArray)]=(fQ n BJ).flatMap gz:=by
 unfold cA;induction n with
 |zero=>rfl
 |succ n ih=>rw[jG,jG,List.flatMap_cons,←ih];rfl
theorem Ji{n:Nat}(g:n*32≤140737488355328){h:ae}{K:SliceV→ae→Prop}(c:∀s' a,OwnS gz 2 al (fun b=>h.size≤b) a s' []→Upd No h a→K s' a):
  HC PG dJ [.slice none 0 0,.int .i64 n] [.c .slice] K h:=by
 refine jQ ⟨none,0,0⟩ n ?_;unfold fG qt;have e:IntKind.wrap .i64 ((n:Int)-IntKind.wrap .i64 (((0:Nat):Int)-((0:Nat):Int)))=(n:Int):=by rw[nT (x:=((0:Nat):Int)-((0:Nat):Int)) (by omega),nT (by omega)];omega
 refine Join.plain (bf (fun h=>by omega) fun _=>?_)
 simp only[Bd];rw[e];refine bf (fun k=>?_) fun hz=>c _ _ (OwnS.nil iI) (Upd.refl _ _)
 refine⟨by omega,⟨by omega,by omega,by omega,by omega⟩,?_⟩
 refine AppP.own (f:=gz) (M:=fun b=>h.size≤b) (xs:= []) (ys:=fQ n BJ) (OwnS.nil iI) (by simp) (EN _) (by rw[EN];exact rE _) rfl (by omega) (by simpa using g) (aw _) fun s' a d i=>?_
 exact⟨by omega,c _ _ (OwnS.zero d) (i.mono fun b j=>.inr j)⟩
abbrev LH(s:SliceV):List Value:= [.slice s.a s.len s.cap]
def ParS(h:ae):List SliceV→List (List Pr)→Prop
 | [],[]=>True
 |v::vs,l::ls=>Sl gz 2 No h v l∧ParS h vs ls
 |_,_=>False
theorem ParS.upd{h a:ae}(k:Upd No h a):∀{vs:List SliceV} {ls:List (List Pr)},ParS h vs ls→ParS a vs ls
 | [],[],_=>trivial
 |_::_,_::_,q=>⟨q.1.upd k fun _ h=>h.elim,ParS.upd k q.2⟩
 | [],_::_,q=>q.elim
 |_::_,[],q=>q.elim
theorem ParS.len{h:ae}:∀{vs:List SliceV} {ls:List (List Pr)},ParS h vs ls→vs.length=ls.length
 | [],[],_=>rfl
 |_::_,_::_,q=>by rw[aL,aL,ParS.len q.2]
 | [],_::_,q=>q.elim
 |_::_,[],q=>q.elim
theorem ParS.at{h:ae}:∀{vs:List SliceV} {ls:List (List Pr)},ParS h vs ls→∀{i:Nat} (h1:i<vs.length) (h2:i<ls.length),Sl gz 2 No h vs[i] ls[i]
 |_::_,_::_,q,0,_,_=>q.1
 |_::_,_::_,q,i+1,h1,h2=>ParS.at q.2 (by simpa using h1) (by simpa using h2)
theorem Am(ls:List (List Pr)){i:Nat}(hi:i<ls.length):(ls.take (i+1)).flatten=(ls.take i).flatten++ls[i]:=by
 rw[List.take_succ_eq_append_getElem hi,dD,dH,jw,List.append_nil]
theorem Fm(ls:List (List Pr))(i:Nat):(ls.take i).flatten.length≤ls.flatten.length:=by
 have:ls.flatten=(ls.take i).flatten++(ls.drop i).flatten:=by rw[←dD,List.take_append_drop]
 rw[this,af];omega
theorem Ap{h:ae}{s:SliceV}{vs:List SliceV}{ls:List (List Pr)}(w:Sl LH 1 No h s vs)(D:ParS h vs ls)(N:ls.flatten.length*32≤140737488355328)(hv:vs.length≤1000)
  {K:SliceV→ae→Prop}(J:∀s' f,OwnS gz 2 al (fun b=>h.size≤b) f s' ls.flatten→Upd No h f→K s' f):HC PG cJ [.slice s.a s.len s.cap] [.c .slice] K h:=by
 refine jr s ?_;unfold fp cG f6 qt;have F:=w.len;have e:=D.len;refine LoopP.ghost (fun(i:Nat) (t:Int×Int) f=>t.2=(i:Int)∧i≤vs.length∧t.1=((ls.take i).flatten.length:Int)∧f=h) (fun i=>vs.length-i) 0 ⟨rfl,bD _,by simp,rfl⟩ ?_
 rintro I i ⟨Q,ti⟩ f ⟨k,hi,G,rfl⟩ O;simp only at k G;subst k G;refine bf (fun c=>?_) fun u=>?_
 ·have c:i<vs.length:=by have:(i:Int)<(s.len:Int):=c;omega
  obtain⟨a,B,_,g⟩:=w.at (aj c);have L:=(D.at c (e▸c)).len;have d:=congrArg gl (Am ls (e▸c));rw[af]at d;have E:=Fm ls (i+1);refine Join.plain ⟨by simp only;omega,a,B,_,g 0 _ rfl,?_⟩;simp only;have ew:IntKind.wrap .i64 (((ls.take i).flatten.length:Int)+((vs[i]).len:Int))=((ls.take (i+1)).flatten.length:Int):=by rw[nT (by omega)];omega
  rw[ew];refine bf (fun h=>by omega) fun _=>?_
  rw[fY c (by omega)];exact O (i+1) _ _ ⟨rfl,c,rfl,rfl⟩ (by omega)
 ·have P:i=vs.length:=by have:¬(i:Int)<(s.len:Int):=u;omega
  rw[bc (by omega)];refine Ji N fun s0 T A v=>?_
  refine LoopP.ghost (fun(i:Nat) (t:SliceV×Int) y=>t.2=(i:Int)∧i≤vs.length∧OwnS gz 2 al (fun b=>f.size≤b) y t.1 (ls.take i).flatten∧Upd No f y) (fun i=>vs.length-i) 0 ⟨rfl,bD _,by simpa using A,v⟩ ?_
  rintro S j ⟨R,V⟩ y ⟨k,W,q,m⟩ x;simp only at k q;subst k;refine bf (fun c=>?_) fun p=>?_
  ·have c:j<vs.length:=by have:(j:Int)<(s.len:Int):=c;omega
   obtain⟨a,B,_,g⟩:=(w.upd m fun _ h=>h.elim).at (aj c)
   have n:=((D.upd m).at c (e▸c));have d:=Am ls (e▸c);have o:=congrArg gl d;rw[af]at o;have E:=Fm ls (j+1);refine Join.plain ⟨by simp only;omega,a,B,_,g 0 _ rfl,_,n.srow,?_⟩;refine AppP.own (ys:=ls[j]) q n.len rfl (rE _) rfl (by omega) (by omega) m.size fun U X C z=>?_
   simp only;rw[fY c (by omega)];exact x (j+1) _ _ ⟨rfl,c,d▸C,m.trans z fun b H=>.inr H⟩ (by omega)
  ·have M:j=vs.length:=by have:¬(j:Int)<(s.len:Int):=p;omega
   rw[bc (by omega)]at q;exact J _ _ q m
def D7(l:List Pr)(p:Pr):List Pr:=l.take (kc l p.1)++p::l.drop (if bK l p.1 then kc l p.1+1 else kc l p.1)
def Gq(l:List Pr)(k:ByteArray):List Pr:=if bK l k then l.take (kc l k)++l.drop (kc l k+1)else l
theorem AW{l:List Pr}(g:cq l){k:ByteArray}(c:bK l k=true):∃h:kc l k<l.length,l[kc l k].1=k:=by
 unfold bK at c;obtain⟨p,f,e⟩:=List.any_eq_true.1 c;have e:=of_decide_eq_true e;obtain⟨q,b,rfl⟩:=List.mem_iff_getElem.1 f;have:kc l k=q:=Hj (by omega) (fun j d a=>by rw[←e];exact List.pairwise_iff_getElem.1 g j q d b a) fun h=>by rw[←e];exact db _
 subst this;exact⟨b,e⟩
theorem AJ{h:ae}{s:SliceV}{l:List Pr}(b:Sl gz 2 No h s l){i j m:Nat}(a:i≤j)(e:j≤l.length)(d:j≤m)(c:Nat):Sl gz 2 No h ⟨aM s.a i m 2,j-i,c⟩ ((l.drop i).take (j-i)):=Sl.sub b a e d
theorem DN{h:ae}{s:SliceV}{l:List Pr}(u:Sl gz 2 No h s l)(hc:s.len≤s.cap)(w:cq l)(H:l.length≤1000000000)(p:Pr)
  {K:SliceV→ae→Prop}(G:∀s' a,OwnS gz 2 al (fun b=>h.size≤b) a s' (D7 l p)→Upd No h a→K s' a):HC PG sY [.slice s.a s.len s.cap,.agg #[.string p.1,.string p.2]] [.c .slice] K h:=by
 refine ED s p ?_;unfold yX aD oZ tW qL;have g:=u.len;have k1:=Upd.hnew No h [.string p.1,.string p.2] al;have b1:=ci h [.string p.1,.string p.2] al;refine bG ?_;simp only[eZ h];generalize hnew h [.string p.1,.string p.2] al=h1 at k1 b1;refine⟨p.1,by rw[bC,aV b1];rfl,Bf (u.upd k1 fun _ h=>h.elim) w H p.1 fun L f=>?_⟩
 have C:=Hk l p.1;have c:=k1.tr f;refine⟨by simp only;omega,?_⟩;let q:=if bK l p.1 then kc l p.1+1 else kc l p.1
 have I:q≤l.length:=by
  show(if bK l p.1 then kc l p.1+1 else kc l p.1)≤l.length
  split
  ·rename_i ht;obtain⟨h,_⟩:=AW w ht;omega
  ·exact C
 refine Join.intro (fun t a=>a=L∧t=⟨aM s.a q s.cap 2,s.len-q,s.cap-q⟩) (fun R B=>?_) ?_
 ·refine CondP.intro (fun e=>?_) fun e=>B _ _ ⟨rfl,?_⟩
  ·have e:bK l p.1=true:=e
   obtain⟨J,_⟩:=AW w e;have ew:IntKind.wrap .i64 ((kc l p.1:Int)+1)=((kc l p.1+1:Nat):Int):=by rw[nT (by omega)];omega
   simp only;rw[ew];refine⟨by omega,B _ _ ⟨rfl,?_⟩⟩;have:q=kc l p.1+1:=by show(if bK l p.1 then _ else _)=_;rw[if_pos e]
   rw[this];rfl
  ·have e:bK l p.1=false:=e
   have:q=kc l p.1:=by show(if bK l p.1 then _ else _)=_;rw[if_neg (by rw[e];decide)]
   rw[this];rfl
 ·rintro t a ⟨rfl,rfl⟩
  have b2:=f.get0 b1;refine⟨by simp only;omega,p.1,by rw[bC,aV b2];rfl,p.2,by rw[bC,aV b2];rfl,?_⟩
  have z:=Upd.hnew No a [.string p.1,.string p.2] al;have b3:=ci a [.string p.1,.string p.2] al;refine bG ?_;simp only[eZ a];generalize hnew a [.string p.1,.string p.2] al=h3 at z b3;refine bG ?_;have d:=(u.upd c fun _ h=>h.elim).upd z fun _ h=>h.elim
  have n:=Upd.hnew No h3 [.slice (aM s.a 0 s.cap 2) ((kc l p.1:Int).toNat-0) (s.cap-0),.slice (some ⟨a.size,0,none⟩) 1 1,.slice (aM s.a q s.cap 2) (s.len-q) (s.cap-q)] cH;have N:=ci h3 [.slice (aM s.a 0 s.cap 2) ((kc l p.1:Int).toNat-0) (s.cap-0),.slice (some ⟨a.size,0,none⟩) 1 1,.slice (aM s.a q s.cap 2) (s.len-q) (s.cap-q)] cH;have D:=AJ d (i:=0) (j:=kc l p.1) (m:=s.cap) (bD _) C (by omega) (s.cap-0)
  have M:Sl gz 2 No h3 ⟨some ⟨a.size,0,none⟩,1,1⟩ [p]:=⟨rfl,iI,fun _=>⟨_,rfl,fun h=>h.elim,nX b3 fun i v hv=>by simpa using hv⟩⟩
  have y:=AJ d (i:=q) (j:=l.length) (m:=s.cap) I (aw _) (by omega) (s.cap-q);rw[←g]at y;rw[List.drop_zero]at D;rw[bc (by rw[aH];omega)]at y;have F:D7 l p= [l.take (kc l p.1-0),[p],l.drop q].flatten:=by simp[D7,q]
  refine Ap (s:=⟨some (aU h3),3,3⟩) (vs:= [⟨aM s.a 0 s.cap 2,(kc l p.1:Int).toNat-0,s.cap-0⟩,⟨some ⟨a.size,0,none⟩,1,1⟩,⟨aM s.a q s.cap 2,s.len-q,s.cap-q⟩]) (ls:= [l.take (kc l p.1-0),[p],l.drop q])
   ⟨rfl,fun x=>⟨rfl,Nat.one_pos⟩,fun _=>⟨_,rfl,fun h=>h.elim,nX N fun i v hv=>by simpa[LH]using hv⟩⟩ ⟨D.upd n fun _ h=>h.elim,M.upd n fun _ h=>h.elim,y.upd n fun _ h=>h.elim,trivial⟩ ?_ (by simp) fun O P k o=>?_
  ·simp only[dH,jw,af,List.length_take,aH,List.length_singleton,List.length_nil];omega
  ·rw[←F]at k
   have A:=((c.tr z).tr n);exact G _ _ (k.more fun b E=>Nat.le_trans A.size E) (A.tr o)
end Go.Proofs
namespace Go.Proofs
open Go.Lift
def pV(n d:Nat):Nat:=(bW n).countP (d.testBit ·)
theorem xA(m n d:Nat):pV (m+n) d=pV m d+pV n (d>>>m):=by
 unfold pV;rw[nP,List.countP_append,List.countP_map];congr 1
 refine List.countP_congr fun i _=>?_
 simp[Nat.testBit_shiftRight]
theorem Fv(d:Nat)(i:Nat):∀n,i≤n→pV n (d&&&(2^i-1))=pV i d:=by
 intro n b;obtain⟨m,rfl⟩:=Nat.exists_eq_add_of_le b;rw[xA];have e:pV i (d&&&(2^i-1))=pV i d:=by
  unfold pV;refine List.countP_congr fun j a=>?_
  have:=fR.1 a;simp[hG,iz,this]
 have c:pV m ((d&&&(2^i-1))>>>i)=0:=by
  unfold pV;rw[List.countP_eq_zero];intro j _;simp[Nat.testBit_shiftRight,hG,iz];intro h;omega
 omega
theorem KD(d:Nat):pV 8 (d&&&255)=pV 8 d:=Fv d 8 8 (aw _)
theorem tf(n d:Nat):pV n d≤n:=by
 have:=List.countP_le_length (p:=(d.testBit ·)) (l:=bW n)
 simpa[pV]using this
theorem iL(d n:Nat):eL (d:Int) (2^n)=((d>>>n:Nat):Int):=by
 rw[Int.fdiv_eq_ediv_of_nonneg _ (by exact Int.le_of_lt (Int.pow_pos (by decide))),eH];simp
theorem Is(a b:Nat):(ah (IntKind.bits .u32) (a:Int)&&&ah (IntKind.bits .u32) (b:Int)).toNat=(a%4294967296)&&&(b%4294967296):=by
 simp[IntKind.bits,BitVec.toNat_and,BitVec.toNat_ofInt];rfl
theorem tK{n:Nat}(h:n<4294967296):IntKind.wrap .u32 (n:Int)=(n:Int):=Go.IntWalk.u32_in _ (by omega)
theorem yb{i:Nat}(hi:i<32){h:ae}{K:Bool→ae→Prop}(a:K true h):HC PG jM [.int .i64 i] [.c .bool] K h:=by
 refine zw i ?_;unfold sA;refine bf (fun _=>?_) fun h=>absurd (Int.natCast_nonneg i) h
 rw[decide_eq_true (by omega)];exact a
theorem Bv{a b:Nat}(h:b<4294967296):a&&&b<4294967296:=fO Nat.and_le_right h
theorem vr{d i:Nat}(hd:d<4294967296)(hi:i<32){h:ae}{K:Bool→ae→Prop}(f:K (d.testBit i) h):HC PG dW [.int .u32 d,.int .i64 i] [.c .bool] K h:=by
 refine vX d i ?_;unfold pS;refine yb hi (aA.2 ⟨by omega,?_⟩);have e:min (i:Int).toNat (IntKind.bits .u32)=i:=by rw[aN];exact aW (by show i≤32;omega)
 rw[e,iL];have a:=Is (d>>>i) 1;have b:d>>>i<4294967296:=fO (ld d i) hd;rw[eW b,show(1:Nat)%4294967296=1 from rfl]at a
 simp only[Bd];rw[show((1:Nat):Int)=(1:Int)from rfl]at a
 rw[a,tK (Bv (by omega))];have c:(((d>>>i&&&1:Nat):Int)==(1:Int))=d.testBit i:=by
  rw[Bool.eq_iff_iff,beq_iff_eq,Nat.testBit,Nat.and_comm];simp only[bne_iff_ne,ne_eq,Nat.one_and_eq_mod_two];have:(d>>>i)%2<2:=nN _ (by omega);omega
 rw[c];exact f
theorem Gx{d i:Nat}(hd:d<4294967296)(hi:i<32):∃w:Nat,IntKind.wrap .u32 (ah (IntKind.bits .u32) (d:Int)|||ah (IntKind.bits .u32) (IntKind.wrap .u32 (1*2^(min (i:Int).toNat (IntKind.bits .u32))))).toNat=(w:Int)∧w<4294967296∧∀j,w.testBit j=(d.testBit j||decide (j=i)):=by
 have e:min (i:Int).toNat (IntKind.bits .u32)=i:=by rw[aN];exact aW (by show i≤32;omega)
 have f:2^i<4294967296:=Nat.pow_lt_pow_right (by omega) (show i<32 from hi)
 have c:(1*2^i:Int)=((2^i:Nat):Int):=by simp
 rw[e,c,tK f];refine⟨_,tK (BitVec.isLt _),BitVec.isLt _,fun j=>?_⟩
 rw[BitVec.testBit_toNat,BitVec.getLsbD_or,iT,iT,iU,iU,Nat.testBit_two_pow];by_cases a:j<32
 ·have:decide (j<IntKind.bits .u32)=true:=decide_eq_true a
  rw[this];simp[eq_comm]
 ·have b:decide (j<IntKind.bits .u32)=false:=decide_eq_false a
  have g:d.testBit j=false:=eg (bv hd (gi (n:=2) (by omega) (show 32≤j by omega)))
  rw[b,g];simp;omega
theorem ET{d i:Nat}(hd:d<4294967296)(hi:i<32){h:ae}{K:Int→ae→Prop}(c:∀w:Nat,w<4294967296→(∀j,w.testBit j=(d.testBit j||decide (j=i)))→K (w:Int) h):HC PG dE [.int .u32 d,.int .i64 i] [.c (.int .u32)] K h:=by
 refine uK d i ?_;unfold oV;refine yb hi (ak.2 ⟨by omega,?_⟩);obtain⟨w,e,a,b⟩:=Gx hd hi;simp only[Bd];rw[e];exact c w a b
theorem Bt{d i:Nat}(hd:d<4294967296)(hi:i<32):∃w:Nat,IntKind.wrap .u32 (ah (IntKind.bits .u32) (d:Int)&&& ~~~ah (IntKind.bits .u32) (IntKind.wrap .u32 (1*2^(min (i:Int).toNat (IntKind.bits .u32))))).toNat=(w:Int)∧w<4294967296∧∀j,w.testBit j=(d.testBit j&&decide (j≠i)):=by
 have e:min (i:Int).toNat (IntKind.bits .u32)=i:=by rw[aN];exact aW (by show i≤32;omega)
 have f:2^i<4294967296:=Nat.pow_lt_pow_right (by omega) (show i<32 from hi)
 have c:(1*2^i:Int)=((2^i:Nat):Int):=by simp
 rw[e,c,tK f];refine⟨_,tK (BitVec.isLt _),BitVec.isLt _,fun j=>?_⟩
 rw[BitVec.testBit_toNat,BitVec.getLsbD_and,BitVec.getLsbD_not,iT,iT,iU,iU,Nat.testBit_two_pow];by_cases a:j<32
 ·have:decide (j<IntKind.bits .u32)=true:=decide_eq_true a
  rw[this];simp[eq_comm]
 ·have b:decide (j<IntKind.bits .u32)=false:=decide_eq_false a
  have g:d.testBit j=false:=eg (bv hd (gi (n:=2) (by omega) (show 32≤j by omega)))
  rw[b,g];simp
theorem xE{d i:Nat}(hd:d<4294967296)(hi:i<32){h:ae}{K:Int→ae→Prop}(c:∀w:Nat,w<4294967296→(∀j,w.testBit j=(d.testBit j&&decide (j≠i)))→K (w:Int) h):HC PG gh [.int .u32 d,.int .i64 i] [.c (.int .u32)] K h:=by
 refine rq d i ?_;unfold mu;refine yb hi (ak.2 ⟨by omega,?_⟩);obtain⟨w,e,a,b⟩:=Bt hd hi;simp only[Bd];rw[e];exact c w a b
abbrev K7:ByteArray:=⟨#[0,1,1,2,1,2,2,3,1,2,2,3,2,3,3,4,1,2,2,3,2,3,3,4,2,3,3,4,3,4,4,5,1,2,2,3,2,3,3,4,2,3,3,4,3,4,4,5,2,3,3,4,3,4,4,5,3,4,4,5,4,5,5,6,1,2,2,3,2,3,3,4,2,3,3,4,3,4,4,5,2,3,3,4,3,4,4,5,3,4,4,5,4,5,5,6,2,3,3,4,3,4,4,5,3,4,4,5,4,5,5,6,3,4,4,5,4,5,5,6,4,5,5,6,5,6,6,7,1,2,2,3,2,3,3,4,2,3,3,4,3,4,4,5,2,3,3,4,3,4,4,5,3,4,4,5,4,5,5,6,2,3,3,4,3,4,4,5,3,4,4,5,4,5,5,6,3,4,4,5,4,5,5,6,4,5,5,6,5,6,6,7,2,3,3,4,3,4,4,5,3,4,4,5,4,5,5,6,3,4,4,5,4,5,5,6,4,5,5,6,5,6,6,7,3,4,4,5,4,5,5,6,4,5,5,6,5,6,6,7,4,5,5,6,5,6,6,7,5,6,6,7,6,7,7,8]⟩
theorem IL:(bW 256).all (fun b=>decide (K7[b]? =some (eC (pV 8 b))))=true:=by decide+kernel
theorem AE{b:Nat}(h:b<256):K7[b]? =some (eC (pV 8 b)):=of_decide_eq_true (List.all_eq_true.1 IL b (fR.2 h))
theorem Bl(b:Nat):(eC (pV 8 b)).toNat=pV 8 b:=by
 have:=tf 8 b;simp;omega
theorem LZ(d:Nat):pV 32 d=pV 8 (d>>>24)+pV 8 ((d>>>16)&&&255)+pV 8 ((d>>>8)&&&255)+pV 8 (d&&&255):=by
 rw[KD,KD,KD,show(32:Nat)=8+(8+(8+8))from rfl,xA,xA,xA]
 simp only[←Nat.shiftRight_add,Nat.reduceAdd];omega
set_option maxRecDepth 100000 in
theorem I9{d:Nat}(hd:d<4294967296){h:ae}{K:Int→ae→Prop}(i:K (pV 32 d:Int) h):HC PG gv [.int .u32 d] [.c (.int .i64)] K h:=by
 refine pF d ?_;unfold kC;have c:eL (d:Int) (2^(min (24:Int).toNat (IntKind.bits .u32)))=((d>>>24:Nat):Int):=iL d 24;have f:eL (d:Int) (2^(min (16:Int).toNat (IntKind.bits .u32)))=((d>>>16:Nat):Int):=iL d 16;have k:eL (d:Int) (2^(min (8:Int).toNat (IntKind.bits .u32)))=((d>>>8:Nat):Int):=iL d 8;have b:∀x:Nat,x<4294967296→IntKind.wrap .u32 (ah (IntKind.bits .u32) (x:Int)&&&ah (IntKind.bits .u32) 255).toNat=((x&&&255:Nat):Int):=fun x hx=>by
  have:=Is x 255;rw[eW hx]at this;rw[show((255:Nat):Int)=(255:Int)from rfl]at this
  rw[this,tK (Bv (by omega))]
 have a:d>>>24<256:=by rw[eH];omega
 have lb:∀x:Nat,x&&&255<256:=fun x=>fO Nat.and_le_right (by omega)
 have g:d>>>16<4294967296:=fO (ld d 16) hd;have j:d>>>8<4294967296:=fO (ld d 8) hd;simp only[Bd];rw[c,f,k,b _ g,b _ j,b _ hd];refine⟨by decide,_,by omega,AE (b:=d>>>24) a,by decide,_,by omega,AE (lb _),by decide,_,by omega,AE (lb _),_,by omega,AE (lb _),?_⟩
 rw[Bl,Bl,Bl,Bl];simp only[aN];have q:=tf 8 (d>>>24);have m:=tf 8 (d>>>16&&&255);have o:=tf 8 (d>>>8&&&255);have q4:=tf 8 (d&&&255);rw[LZ]at i;have e:∀n:Nat,n≤255→IntKind.wrap .u8 (n:Int)=(n:Int):=fun n p=>Go.IntWalk.u8_in _ (by omega)
 rw[←Int.natCast_add,e _ (by omega),←Int.natCast_add,e _ (by omega),←Int.natCast_add,e _ (by omega),nT (by omega)];exact i
theorem lZ{d i:Nat}(hd:d<4294967296)(hi:i<32){h:ae}{K:Int→ae→Prop}(a:K (pV i d:Int) h):HC PG cn [.int .u32 d,.int .i64 i] [.c (.int .i64)] K h:=by
 refine uL d i ?_;unfold oW;refine bf (fun c=>?_) fun c=>?_
 ·have:i=0:=by omega
  subst this;exact a
 ·refine bf (fun h=>by omega) fun _=>⟨by omega,?_⟩
  have e:min (i:Int).toNat (IntKind.bits .u32)=i:=by rw[aN];exact aW (by show i≤32;omega)
  have g:2^i<4294967296:=Nat.pow_lt_pow_right (by omega) (show i<32 from hi)
  have b:0<2^i:=Nat.pow_pos (by omega);have f:(1*2^i:Int)=((2^i:Nat):Int):=by simp
  have j:(((2^i:Nat):Int)-1)=((2^i-1:Nat):Int):=by omega
  simp only[Bd];rw[e,f,tK g,j,tK (show 2^i-1<4294967296 by omega),Is,eW hd,eW (show 2^i-1<4294967296 by omega),tK (Bv (by omega))]
  refine tG _ ?_;unfold nL;refine I9 (Bv (by omega)) ?_;rw[Fv d i 32 (by omega)];exact a
end Go.Proofs
namespace Go.Proofs
open Go.Lift
def fm{β:Type}(g:Nat→Option β)(n:Nat):List β:=(bW n).filterMap g
def upd{β:Type}(g:Nat→Option β)(i:Nat)(x:Option β)(j:Nat):Option β:=if j=i then x else g j
theorem Ll{β:Type}{f g:Nat→Option β}:∀l:List Nat,(∀j∈l,f j=g j)→l.filterMap f=l.filterMap g
 | [],_=>rfl
 |j::l,h=>by
  rw[List.filterMap_cons,List.filterMap_cons,h j (List.mem_cons_self ..),Ll l fun k a=>h k (List.mem_cons_of_mem _ a)]
section
variable {β:Type} {g:Nat→Option β} {d:Nat}
theorem yw(hd:∀c,c<32→d.testBit c=(g c).isSome){i:Nat}(hi:i≤32):(fm g i).length=pV i d:=by
 unfold fm pV;rw[List.length_filterMap_eq_countP];exact List.countP_congr fun j a=>by rw[hd j (by have:=fR.1 a;omega)]
theorem mh{i n:Nat}(hi:i<n):fm g n=fm g i++((g i).toList++(bW (n-(i+1))).filterMap fun j=>g (i+1+j)):=by
 unfold fm;have e:n=i+(1+(n-(i+1))):=by omega
 rw[e,nP,lC,nP];have a:i+(1+(n-(i+1)))-(i+1)=n-(i+1):=by omega
 rw[a];congr 1
 rw[List.map_append,lC,List.map_map];congr 1
 rw[List.filterMap_map];refine Ll _ fun j _=>?_
 show g (i+(1+j))=_
 rw[Nat.add_assoc]
theorem sV{i:Nat}{x:Option β}:fm (upd g i x) i=fm g i:=by
 unfold fm;refine Ll _ fun j a=>?_
 have:=fR.1 a;unfold upd;rw[if_neg (by omega)]
theorem qZ{i m:Nat}{x:Option β}:((bW m).filterMap fun j=>upd g i x (i+1+j))=(bW m).filterMap fun j=>g (i+1+j):=by
 refine Ll _ fun j _=>?_
 unfold upd;rw[if_neg (by omega)]
theorem HK{i:Nat}(hi:i<32)(hd:∀c,c<32→d.testBit c=(g c).isSome)(b:g i=none)(x:β):fm (upd g i (some x)) 32=(fm g 32).take (pV i d)++x::(fm g 32).drop (pV i d):=by
 have a:=yw hd (i:=i) (by omega);rw[mh (g:=upd g i (some x)) hi,mh (g:=g) hi,sV,qZ,b,bV a,bN a];simp[upd]
theorem HJ{i:Nat}(hi:i<32)(hd:∀c,c<32→d.testBit c=(g c).isSome){y:β}(b:g i=some y)(x:β):fm (upd g i (some x)) 32=(fm g 32).take (pV i d)++x::(fm g 32).drop (pV i d+1):=by
 have a:=yw hd (i:=i) (by omega);rw[mh (g:=upd g i (some x)) hi,mh (g:=g) hi,sV,qZ,b,bV a,←cS,bN a];simp[upd]
theorem HL{i:Nat}(hi:i<32)(hd:∀c,c<32→d.testBit c=(g c).isSome){y:β}(b:g i=some y):fm (upd g i none) 32=(fm g 32).take (pV i d)++(fm g 32).drop (pV i d+1):=by
 have a:=yw hd (i:=i) (by omega);rw[mh (g:=upd g i none) hi,mh (g:=g) hi,sV,qZ,b,bV a,←cS,bN a];simp[upd]
theorem HM{i:Nat}(hi:i<32)(hd:∀c,c<32→d.testBit c=(g c).isSome){y:β}(b:g i=some y):(fm g 32)[pV i d]? =some y:=by
 have a:=yw hd (i:=i) (by omega);rw[mh (g:=g) hi,b,List.getElem?_append_right (by omega),a,Nat.sub_self];rfl
theorem Al{i:Nat}(hi:i<32)(hd:∀c,c<32→d.testBit c=(g c).isSome){y:β}(a:g i=some y):pV i d<(fm g 32).length:=(List.getElem?_eq_some_iff.1 (HM hi hd a)).1
theorem JG{i:Nat}(hi:i<32)(hd:∀c,c<32→d.testBit c=(g c).isSome):pV i d≤(fm g 32).length:=by
 have a:=yw hd (i:=i) (by omega);rw[mh (g:=g) hi,af];omega
theorem sf:(fm g 32).length≤32:=by
 have:=List.length_filterMap_le g (bW 32);simpa[fm]using this
end
end Go.Proofs
