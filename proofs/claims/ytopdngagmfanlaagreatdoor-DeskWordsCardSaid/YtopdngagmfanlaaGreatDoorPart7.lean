/- A part of the proof that the named laws of this program answer true, whatever the input. -/
import Derived.Test.YtopdngagmfanlaaGreatDoorPart6
import Derived.Test.YtopdngagmfanlaaGreatDoorPart5
import Derived.Test.YtopdngagmfanlaaGreatDoorTreeF0
import Derived.Test.YtopdngagmfanlaaGreatDoorTreeF1
import Derived.Test.YtopdngagmfanlaaGreatDoorTreeF2
import Derived.Test.YtopdngagmfanlaaGreatDoorPart0
import Derived.Conc.LoneSelect
import Derived.KernelRfl
import Derived.Laws.Rows
import Derived.Test.YtopdngagmfanlaaGreatDoorPart1
open Array renaming size→aA
open ByteArray renaming size_extract→nr
open Go.IntKind renaming wrap→ac
open Int renaming toNat_natCast→aB
open List renaming range→dA,getElem?_eq_some_iff→bi,length_cons→aV,mem_cons→au
open List.Pairwise renaming nil→ix
open Nat renaming le_refl→az,lt_of_lt_of_le→aC,zero_le→cu,lt_or_ge→bQ,le_trans→bR
open Option renaming some→aZ
namespace Go.Proofs
open Go Go.Lift
theorem O3{sp k:Nat}{f:FuncId}{o:xB}(ek:o.1=(k:Int))(n:k<26)(q:Ke[k]? =some (Au f)) {h:ad} {K:An→ad→Prop}
  (hc:∀a b,Upd No h a→h.size≤b→b<a.size→HC PG f [.pointer (some ⟨sp,0,none⟩),PN o] KS (fun e h'=>∃M:Nat→Prop,Upd M a h'∧¬M b∧∀d,Upd (· =b) h' d→K e d) a):
  HC PG fH [.pointer (some ⟨sp,0,none⟩),PN o] KS K h:=by
 refine AJ (some ⟨sp,0,none⟩) o ?_;unfold sY ao cF av bU aO BK eH Aj Jo OE Hc;refine cf fun s b1 k1=>cf fun a b2 j=>ag.2 ?_
 have c1:=j.get0 b1;refine⟨_,vc c1 0,?_⟩;rw[ek];refine OD n q fun d g=>⟨rfl,ag.2 (Oh (o:=o) (g.get0 c1) (HV.mk' ?_))⟩
 have i:=(k1.tr j).tr g;have m:=k1.size;have y:=bp b2;have x:=g.size;refine(hc d s.size i m (by omega)).mono fun e z ⟨M,v,p,u⟩=>?_
 exact yi (c:=PP) (e:=e) (v.get (g.get0 b2) p) fun t w=>u t w
section
variable {W:Nat→Prop} {h:ad} {sp vp:Nat} {s:VS} {sm:Option Nat} {last:Int} {pool:Option Addr} {o:xB}
abbrev Jx(b:Nat)(sm:Option Nat)(last:Int)(a:Option Addr):List Value:= [.pointer (some ⟨b,0,none⟩),.map sm,.int .i64 last,.pointer a]
theorem BaseOf.is(v:VaultAt W h vp s){id:Int}{B:TD}(a:BaseOf s id B):TreeIs W h s.kind s.x B.1 B.2:=by
 rcases a with⟨_,rfl⟩|⟨_,a⟩
 ·exact v.em
 ·exact(v.ts _ (IH a)).1
theorem Hr(v:VaultAt W h vp s)(b:h[sp]? =some (.cells (Jx vp sm last pool).toArray cO (0,0))) {K:An→ad→Prop} (q:∀h',Upd s.M h h'→VaultAt W h' vp {s with B:=if wd s.B s.L o.2.1 o.2.2.2.2.2.1 false=0 then m5 s.B o.2.1 o.2.2.2.2.2.1 else s.B}→K (wd s.B s.L o.2.1 o.2.2.2.2.2.1 false,0,0,⟨#[]⟩,false,0,gH,gH,gH,gH,gH) h'):
  HC PG ig [.pointer (some ⟨sp,0,none⟩),PN o] KS K h:=by
 refine vy (some ⟨sp,0,none⟩) o ?_;unfold pa ao cF av bU aO BK eH gi Aj Hc Ra;refine cf fun A b1 k1=>cf fun C b2 n=>?_
 have a:=k1.tr n;have c1:=n.get0 b1;have m:=v.w;have j:=v.g.lt;have hM:∀y,s.M y→y<h.size:=fun y f=>j y (m y f)
 have p:=k1.size;have z:=bp b2;refine⟨_,rfl,_,vc (a.get0 b) 0,_,vc c1 1,_,vc c1 5,Jp (v.pro a) o.2.1 o.2.2.2.2.2.1 fun x u t=>MM fun w d=>?_⟩
 have i:Upd s.M C x:=u.mono fun y f=>.inl (.inr (.inr (.inr (.inl f))))
 refine yi (c:=PP) (e:=(wd s.B s.L o.2.1 o.2.2.2.2.2.1 false,0,0,⟨#[]⟩,false,0,gH,gH,gH,gH,gH)) (d.get0 (i.get b2 fun e=>by have:=hM _ e;omega)) fun k g=>q k ?_ ?_
 ·exact((a.wide.tr i).tr d.wide).trans g fun y f=>.inr (by have f:y=A.size:=f;omega)
 ·exact((t.upd0 d).own hM g p z).dn m
theorem Qa(v:VaultAt W h vp s){k:Nat}(e:h[k]? =some (.cells (sE o).toArray bf (0,0))) {B:TD} (i:TreeIs W h s.kind s.x B.1 B.2) {N:Nat} (z:N≤900) (p:Few N B.2) (C:o.2.2.2.1.size≤30) (E:o.2.2.2.2.1.size≤30) {K:Tr×Int→ad→Prop} (u:∀h' g,TreeIs W h' s.kind s.x g (iG (o.2.2.2.1,o.2.2.2.2.1) B.2)→Upd No h h'→K (g,0) h'):
  HC PG gj [L4 B.1,.pointer (some ⟨k,0,none⟩)] [.agg [.int .i64,.int .u64,.int .u64,.int .u64,.ptr,.ptr],.c (.int .i64)] K h:=by
 refine wh B.1 ⟨k,0,none⟩ ?_;unfold pO ao cC eH ae ah nI kH uw kD;refine cf fun x b1 k1=>cf fun D b2 j=>?_
 have c1:=j.get0 b1;have q:=j.get0 (k1.get0 e);have d:=k1.tr j;have t:=k1.size;have A:=bp b2;refine⟨_,vc c1 0,_,vc c1 1,_,vc c1 2,_,vc c1 3,_,vc c1 4,_,vc c1 5,_,vc q 3,_,vc q 4,?_⟩;refine Ho (i.pro d) (Pro.lt v.g.lt d) p.up (by have:=p.len;omega) (o.2.2.2.1,o.2.2.2.2.1) (by simp only;omega) (by simp only;omega) fun w g n _ b=>eN (c:=nu zQ) (vs:=nu g) (b.get0 b2) rfl fun m a f=>?_
 refine⟨_,vc a 0,_,vc a 1,_,vc a 2,_,vc a 3,_,vc a 4,_,vc a 5,u m g ?_ ((d.tr b).own f t)⟩;exact(n.updM f fun y e=>.inl (.inr (by have e:y=x.size:=e;omega))).less fun y e=>.inl (.inl e)
theorem NG{n:ByteArray}{d:TD}{ps:List Int}{id:Int}(h:(j3 s.L s.nx ps).1=(id,0)):(wY s n d ps).1=(id,0):=by
 unfold wY;rw[h,if_neg (by simp)]
theorem zW{n:ByteArray}{d:TD}{ps:List Int}:∀y,(wY s n d ps).2.M y↔s.M y:=fun y=>by unfold wY;split<;>rfl
theorem Kw(v:VaultAt W h vp s)(b:h[sp]? =some (.cells (Jx vp sm last pool).toArray cO (0,0))) {H:Nat} (cy:h[H]? =some (.cells (sE o).toArray bf (0,0))) (_:¬s.M sp) {hd:Int} (P:cV s.B o.2.1=some hd) (hh:hd=0∨hd∈ids s.L) {N:Nat} (hN:N≤900) (hF:∀B,BaseOf s hd B→Few N B.2) (Q:o.2.2.2.1.size≤30) (Z:o.2.2.2.2.1.size≤30) {id:Int} (C:(j3 s.L s.nx (nz [hd])).1=(id,0)) {K:An→ad→Prop}
  (hk:∀h' B p,BaseOf s hd B→Upd s.M h h'→VaultAt W h' vp (wY s o.2.1 (p,iG (o.2.2.2.1,o.2.2.2.2.1) B.2) (nz [hd])).2→K (0,id,0,⟨#[]⟩,false,0,gH,gH,gH,gH,gH) h'):
  HC PG l9 [.pointer (some ⟨sp,0,none⟩),PN o,.func (.func gj) #[] #[.pointer (some ⟨H,0,none⟩)]] KS K h:=by
 have O:=v.w;have F:=v.g.lt;have hM:∀y,s.M y→y<h.size:=fun y a=>F y (O y a)
 refine xF (some ⟨sp,0,none⟩) o (.func (.func gj) #[] #[.pointer (some ⟨H,0,none⟩)]) ?_;unfold qI ao cF av bU aO BK eH nv lA gi Aj Hc ae ah nI kH OF zV uw Sq;refine cf fun L b3 U=>cf fun h4 R X=>?_
 have f:=U.tr X;have s3:=U.size;have z4:=bp R;have z3:=bp b3;have V:=X.get0 b3;refine⟨_,rfl,_,vc (f.get0 b) 0,_,vc V 1,Hk (v.upd0 f) o.2.1 ?_⟩;rw[P];refine ag.2 ⟨_,rfl,_,vc (f.get0 b) 0,EM (v.upd0 f) hh fun B J E Y=>?_⟩
 refine cf fun h6 b6 k6=>eN (c:=nu zQ) (vs:=nu B.1) b6 rfl fun A i u7=>?_
 have s5:=Y.size;have g:Upd No h4 A:=(Y.tr k6).own u7 s5;have j:=f.tr g;have s7:=g.size;have z7:=bp i;have T:=hF B J;have I:=v.pro j;have S:Few (N+1) (iG (o.2.2.2.1,o.2.2.2.2.1) B.2):=T.ins _ Q Z;refine⟨_,vc i 0,_,vc i 1,_,vc i 2,_,vc i 3,_,vc i 4,_,vc i 5,HV.mk' ?_⟩;refine Qa (o:=o) I (j.get0 cy) (J.is I) hN T Q Z fun h8 p i8 w=>?_
 refine eN (c:=nu B.1) (vs:=nu p) (w.get0 i) rfl fun x n q=>ag.2 ?_
 have m:h.size≤E.size∧E.size<A.size:=by omega
 have t:Upd No h x:=(j.tr w).own q m.1;have v9:VaultAt (Pro W h A) x vp s:=(I.upd0 w).own hM q m.1 m.2;have i9:TreeIs (Pro W h A) x s.kind s.x p (iG (o.2.2.2.1,o.2.2.2.2.1) B.2):=i8.updM q fun y a=>.inl (.inr (by have a:y=E.size:=a;omega))
 have c9:x[h.size]? =some (.cells (sE o).toArray bf (0,0)):=q.oth (w.get0 (g.get0 V)) (by omega);refine⟨_,rfl,_,vc (t.get0 b) 0,_,vc c9 1,_,vc n 0,_,vc n 1,_,vc n 2,_,vc n 3,_,vc n 4,_,vc n 5,?_⟩;refine Jq v9 o.2.1 P (d:=(p,iG (o.2.2.2.1,o.2.2.2.2.1) B.2)) i9 S.up S.fits fun h10 u D=>?_
 rw[NG C];refine Oz fun h11 k=>?_
 have nM:∀y,h.size≤y→¬s.M y:=fun y a e=>by have:=hM y e;omega
 have d9:x[L.size]? =some (.cells (RQ PP).toArray de (0,0)):=q.oth (w.get0 (g.get0 R)) (by omega);refine yi (c:=PP) (e:=(0,id,0,⟨#[]⟩,false,0,gH,gH,gH,gH,gH)) (k.get0 (u.get d9 (nM _ (by omega)))) fun G z=>hk G B p J ?_ ?_
 ·exact((t.wide.tr u).tr k.wide).trans z fun y a=>.inr (by have a:y=L.size:=a;omega)
 ·exact((D.upd0 k).own (fun y a=>hM y ((zW y).1 a)) z (by omega) (by omega)).dn fun y a=>O y ((zW y).1 a)
theorem N4(v:VaultAt W h vp s)(b:h[sp]? =some (.cells (Jx vp sm last pool).toArray cO (0,0))) (g:¬s.M sp) {hd:Int} (q:cV s.B o.2.1=some hd) (w:hd=0∨hd∈ids s.L) {N:Nat} (A:N≤900) (t:∀B,BaseOf s hd B→Few N B.2) (u:o.2.2.2.1.size≤30) (E:o.2.2.2.2.1.size≤30) {id:Int} (f:(j3 s.L s.nx (nz [hd])).1=(id,0)) {K:An→ad→Prop}
  (z:∀h' B j,BaseOf s hd B→Upd s.M h h'→VaultAt W h' vp (wY s o.2.1 (j,iG (o.2.2.2.1,o.2.2.2.2.1) B.2) (nz [hd])).2→K (0,id,0,⟨#[]⟩,false,0,gH,gH,gH,gH,gH) h'):
  HC PG jQ [.pointer (some ⟨sp,0,none⟩),PN o] KS K h:=by
 have k:=v.w;have i:=v.g.lt;have hM:∀y,s.M y→y<h.size:=fun y a=>i y (k y a)
 refine yS (some ⟨sp,0,none⟩) o ?_;unfold rz ao cF av bU aO BK eH Aj Jo Hc;refine cf fun F b1 k1=>cf fun J b2 n=>?_
 have d:=k1.tr n;have c1:=n.get0 b1;have x:=k1.size;have C:=bp b2;refine Oh (o:=o) c1 (Kw (v.pro d) (d.get0 b) c1 g q w A t u E f fun I B j H m D=>?_)
 refine yi (c:=PP) (e:=(0,id,0,⟨#[]⟩,false,0,gH,gH,gH,gH,gH)) (m.get b2 fun e=>by have:=hM _ e;omega) fun G p=>z G B j H ((d.wide.tr m).trans p fun y a=>.inr (by have a:y=F.size:=a;omega)) ?_
 exact(D.own (fun y a=>hM y ((zW y).1 a)) p x C).dn fun y a=>k y ((zW y).1 a)
end
end Go.Proofs
namespace Go.Proofs
open Go Go.Lift Go.Conc Go.RowKit
theorem QC{w:World}{b i:Nat}{c:Array Value}{t:TypeId}{v:Value}(h:w.heap[b]? =some (.cells c t (0,0))) (a:c[i]? =some v):w.cell? ⟨b,i,none⟩=some v:=by
 simp only[World.cell?,h];exact a
theorem mkc(w:World)(n:Nat)(h:n≤4096):(Instr.makeChan 267 (.int .i64 n)).run Tryz.prog w=.ok (.chan (some w.heap.size)) (w.alloc (.chan n #[] false 0 0 false)):=by
 have a:Tryz.prog.underlying 267=some (.chan .both 3):=by kernel_rfl
 have c:(Tryz.prog.info? 3).map (·.bytes)=some 8:=by kernel_rfl
 obtain⟨i,hi,b⟩:=Option.map_eq_some_iff.1 c;exact run_makeChan (P:=Tryz.prog) (w:=w) a hi .i64 n (by omega) (by rw[b];omega)
noncomputable abbrev Ca:Code:=match Tryz.f141.body with|some (.seq _ (.seq _ (.seq _ (.seq (.seq _ (.block _ (.loop c))) _))))=>c|_=>.skip
noncomputable abbrev Gn:Code:=match Tryz.f141.body with|some (.seq _ (.seq _ (.seq _ (.seq _ c))))=>c|_=>.skip
set_option maxRecDepth 100000 in
set_option maxHeartbeats 4000000 in
theorem Oy{n pb t:Nat}{Q:Goroutine→World→Prop}{cs:List Frame}(L:n≤4096)(D:pb≠t):∀(m i:Nat) (u d o f g q e b k p:Value) (ids:List Value) (s r:Nat) (w:World),i+m=n→ids.length=i→w.heap[pb]? =some (.cells #[.chan (some t)] 269 (0,0))→w.heap[t]? =some (.chan n ids.toArray false s r false)→
  (∀(u d o f g q e b k p:Value) (a:List Value) (s' y:Nat) (w':World),a=ids++(dA m).map (fun j=>Value.int .i64 ((i+j:Nat)+1:Int))→(w'=w∨w'=w.setChan t n a.toArray false s' y false)→w'.heap[t]? =some (.chan n a.toArray false s' y false)→LoneTo Tryz.prog Q (G ((base 141).at ⟨#[.int .i64 n,undef,.pointer none,.int .i64 0,.pointer (some ⟨pb,0,none⟩),u,.int .i64 n,.bool false,.bool false,.int .i64 n,.bool false,.bool false,.int .i64 n,.chan (some t),.agg #[.chan (some t)],.pointer (some ⟨pb,0,none⟩),.int .i64 n,.int .i64 n,d,o,f,g,q,e,b,k,p,undef],[]⟩ [.code Gn]) cs) w')→
  LoneTo Tryz.prog Q (G ((base 141).at ⟨#[.int .i64 n,undef,.pointer none,.int .i64 0,.pointer (some ⟨pb,0,none⟩),u,.int .i64 n,.bool false,.bool false,.int .i64 n,.bool false,.bool false,.int .i64 n,.chan (some t),.agg #[.chan (some t)],.pointer (some ⟨pb,0,none⟩),.int .i64 n,.int .i64 i,d,o,f,g,q,e,b,k,p,undef],[]⟩ [.code Ca,.inLoop Ca,.inBlock 0,.code Gn]) cs) w:=by
 intro m;induction m with
 |zero=>
  intro i u d o f g q e b k p ids s r w v C A hc z;have v:i=n:=by omega
  subst v;have B:¬((i:Int)<(i:Int)):=by omega
  refine LoneTo.goes (n:=9) ?_;simp only[Ca,Tryz.f141];s_c stepG_seq
  s_reg
  s_op
  s_c stepG_region_end
  s_c stepG_seq
  s_cond false
  s_exit
  s_stop
  exact z _ _ _ _ _ _ _ _ _ _ ids s r w (by simp) (.inl rfl) hc
 |succ m ih=>
  intro i u d o f g q e b k p ids s r w v C A hc z;have B:((i:Int)<(n:Int)):=by omega
  have aE:=QC A (i:=0) rfl;have K:ac .i64 ((i:Int)+1)=((i+1:Nat):Int):=by rw[j2 (by omega)];omega
  refine LoneTo.goes (n:=21) ?_;simp only[Ca,Tryz.f141];s_c stepG_seq
  s_reg
  s_op
  s_c stepG_region_end
  s_c stepG_seq
  s_cond true
  s_c stepG_skip
  s_c stepG_seq
  s_c stepG_block
  s_c stepG_seq
  s_reg
  s_op
  s_op
  s_c stepG_region_end
  s_reg
  s_op
  s_op
  s_op
  s_op
  s_op
  s_op
  s_stop
  refine LoneTo.step (step_lone_send_room (c:=t) (cap:=n) (buf:=ids.toArray) (s:=s) (r:=r) (tm:=false) (stepG_comm (cases:= #[scase t (.int .i64 ((i:Int)+1)) (.tuple #[])]) (blocking:=true) (shape:=.send) (w':=w) rfl rfl (by decide) (by simp[execOp,scase,Act.eval])) hc (by simp[C];omega)) ?_;rw[Frame.finish_at];walk_nrm
  have E:t<w.heap.size:=(Array.getElem?_eq_some_iff.1 hc).1;refine LoneTo.goes (n:=7) ?_;s_c stepG_region_end
  s_c stepG_inBlock
  s_reg
  s_op
  s_op
  s_c stepG_region_end
  s_c stepG_inLoop
  s_stop
  have H:((i:Int)+1)=((i+1:Nat):Int):=by omega
  rw[H];refine ih (i+1) _ _ _ _ _ _ _ _ _ _ (ids++ [Value.int .i64 ((i+1:Nat):Int)]) (s+1) r (w.setChan t n (ids++ [Value.int .i64 ((i+1:Nat):Int)]).toArray false (s+1) r false) (by omega) (by simp[C]) ?_ (heap_setChan _ _ _ _ _ _ _ _ E) fun u d o f g q e b k p a s' y w' e1 e2 x=>z u d o f g q e b k p a s' y w' ?_ (.inr ?_) x
  ·simp only[World.setChan,Array.getElem?_setIfInBounds]
   rw[if_neg (Ne.symm D)];exact A
  ·rw[e1,List.range_succ_eq_map]
   simp[Nat.add_comm,Nat.add_left_comm,Function.comp_def]
  ·rcases e2 with e2|e2
   ·subst e2
    rw[heap_setChan _ _ _ _ _ _ _ _ E]at x;simp only[aZ.injEq,Obj.chan.injEq]at x;obtain⟨_,J,_,I,F,_⟩:=x;rw[J,I,F]
   ·rw[e2];simp[World.setChan]
set_option maxRecDepth 100000 in
set_option maxHeartbeats 4000000 in
theorem Ox{n:Nat}{w:World}(y:1≤n)(a:n≤4096):Calls Tryz.prog 141 #[.int .i64 n] w fun e w'=>e=.returned (.tuple #[.pointer (some ⟨w.heap.size+1,0,none⟩),.int .i64 0])∧∃(ids:List Value) (s r:Nat),ids=(dA n).map (fun j=>Value.int .i64 ((0+j:Nat)+1:Int))∧w'.heap[w.heap.size]? =some (.chan n ids.toArray false s r false)∧(w'=(w.alloc (.chan n #[] false 0 0 false)).alloc (.cells #[.chan (some w.heap.size)] 269 (0,0))∨w'=((w.alloc (.chan n #[] false 0 0 false)).alloc (.cells #[.chan (some w.heap.size)] 269 (0,0))).setChan w.heap.size n ids.toArray false s r false):=by
 refine calls_of_loneTo fun cs=>?_
 have e:Frame.enter Tryz.prog 141 #[.int .i64 n] .normal=(base 141).at ⟨#[.int .i64 n,undef,undef,undef,undef,undef,undef,undef,undef,undef,undef,undef,undef,undef,undef,undef,undef,undef,undef,undef,undef,undef,undef,undef,undef,undef,undef,undef],[]⟩ [.code (Tryz.f141.body.getD .skip)]:=by
  simp[Frame.enter,Frame.at,Tryz.func141,base,Tryz.f141]
 rw[e];have c:=fun w=>mkc w n a
 have c1:¬((n:Int)<1):=by omega
 have v:¬(4096<(n:Int)):=by omega
 refine LoneTo.goes (n:=33) ?_;simp only[Tryz.f141,Option.getD_some];s_c stepG_seq
 s_reg
 s_op
 s_op
 s_c stepG_region_end
 s_c stepG_seq
 s_c stepG_seq
 s_reg
 s_op
 s_op
 s_op
 s_op
 s_op
 s_op
 s_c stepG_region_end
 s_cond false
 s_c stepG_skip
 s_c stepG_seq
 s_reg
 s_op
 s_op
 s_op
 s_op
 s_op
 s_c stepG_region_end
 s_c stepG_seq
 s_c stepG_seq
 s_reg
 s_op
 s_op
 s_c stepG_region_end
 s_c stepG_block
 s_c stepG_loop
 s_stop
 have m:((w.alloc (.chan n #[] false 0 0 false)).alloc (.cells #[.chan (some w.heap.size)] 269 (0,0))).heap[w.heap.size+1]? =some (.cells #[.chan (some w.heap.size)] 269 (0,0)):=by
  have:=heap_alloc_new (w.alloc (.chan n #[] false 0 0 false)) (.cells #[.chan (some w.heap.size)] 269 (0,0));simpa using this
 have q:((w.alloc (.chan n #[] false 0 0 false)).alloc (.cells #[.chan (some w.heap.size)] 269 (0,0))).heap[w.heap.size]? =some (.chan n #[] false 0 0 false):=by
  show((w.heap.push (.chan n #[] false 0 0 false)).push (.cells #[.chan (some w.heap.size)] 269 (0,0)))[w.heap.size]? =_
  simp[Array.getElem?_push]
 refine Oy a (by omega) n 0 _ _ _ _ _ _ _ _ _ _ [] 0 0 _ (by omega) rfl m q fun x i u f o g k d p b ids s r w' e1 e2 t=>?_
 refine LoneTo.goes (n:=7) ?_;simp only[Gn,Tryz.f141];s_c stepG_seq
 s_reg
 s_op
 s_op
 s_op
 s_c stepG_region_end
 s_c stepG_ret'
 s_stop
 refine LoneTo.done ⟨.returned (.tuple #[.pointer (some ⟨w.heap.size+1,0,none⟩),.int .i64 0]),_,rfl,⟨rfl,ids,s,r,by simpa[dA]using e1,t,e2⟩,rfl,rfl,rfl,rfl,_,Tryz.func141,by simp[results,Tryz.f141,Frame.at]⟩
section
variable {pb tb cb:Nat} {id:Int} {u2 u3 u4 u5 u6 u7 u8 u9 u10 u11 u12 u13 u14 u15 u16 u17 u18 u19 u20 u21 u22:Value} {Q:Goroutine→World→Prop} {cs:List Frame} {kk:List Item} {w:World}
set_option maxRecDepth 100000
end
end Go.Proofs
namespace Go.Proofs
open Go Go.Lift Go.Conc
def PoolAt(h:ad)(pb a cap:Nat)(ids:List Int):Prop:=pb≠a∧h[pb]? =some (.cells #[.chan (some a)] 269 (0,0))∧∃s r,h[a]? =some (.chan cap (ids.map fun i=>Value.int .i64 i).toArray false s r false)
theorem PoolAt.upd{M:Nat→Prop}{h h':ad}{pb c cap:Nat}{ids:List Int}(p:PoolAt h pb c cap ids)(k:Upd M h h')(d:¬M pb)(e:¬M c):PoolAt h' pb c cap ids:=let⟨n,a,s,r,b⟩:=p;⟨n,k.get a d,s,r,k.get b e⟩
theorem PoolAt.upd0{h h':ad}{pb a cap:Nat}{ids:List Int}(p:PoolAt h pb a cap ids)(k:Upd No h h'):PoolAt h' pb a cap ids:=p.upd k id id
theorem J0{n:Nat}(m:1≤n)(k:n≤4096){h:ad}{K:Option Addr×Int→ad→Prop}(b:∀h',Upd No h h'→PoolAt h' (h.size+1) h.size n ((dA n).map fun j=>((j:Nat):Int)+1)→K (some ⟨h.size+1,0,none⟩,0) h'):HC PG Bj [.int .i64 n] [.c .ptr,.c (.int .i64)] K h:=by
 refine⟨fun w g=>.inl ⟨Tryz.call141 _ w,(Ox m k (w:=w)).mono ?_⟩⟩
 subst g;rintro e w' ⟨rfl,ids,s,r,e1,e2,o⟩;have k1:Upd No w.heap ((w.heap.push (.chan n #[] false 0 0 false)).push (.cells #[.chan (some w.heap.size)] 269 (0,0))):=(Upd.push No w.heap _).tr (Upd.push No _ _);have a:ids=(((dA n).map fun j=>((j:Nat):Int)+1).map fun i=>Value.int .i64 i):=by rw[e1];simp[Function.comp_def]
 have f:((w.heap.push (.chan n #[] false 0 0 false)).push (.cells #[.chan (some w.heap.size)] 269 (0,0)))[w.heap.size+1]? =some (.cells #[.chan (some w.heap.size)] 269 (0,0)):=by
  rw[Array.getElem?_push,Array.size_push,if_pos rfl]
 rcases o with rfl|rfl
 ·refine⟨⟨rfl,rfl,rfl⟩,((some ⟨w.heap.size+1,0,none⟩,0):Option Addr×Int),rfl,b _ k1 ⟨by omega,f,s,r,?_⟩⟩
  rw[←a];exact e2
 ·have c:=Upd.set (M:=(· =w.heap.size)) ((w.heap.push (.chan n #[] false 0 0 false)).push (.cells #[.chan (some w.heap.size)] 269 (0,0))) (.chan n ids.toArray false s r false) rfl
  refine⟨⟨rfl,rfl,rfl⟩,((some ⟨w.heap.size+1,0,none⟩,0):Option Addr×Int),rfl,b _ (k1.trans c fun y d=>.inr (by have d:y=w.heap.size:=d;omega)) ⟨by omega,c.get f (fun e=>by have e:w.heap.size+1=w.heap.size:=e;omega),s,r,?_⟩⟩
  rw[←a];exact e2
end Go.Proofs
namespace Go.Proofs
open Go Go.Lift
section
variable {W:Nat→Prop} {h:ad} {sp vp:Nat} {s:VS} {sm:Option Nat} {last:Int} {pool:Option Addr} {o:xB}
theorem P2(v:VaultAt W h vp s)(b:h[sp]? =some (.cells (Jx vp sm last pool).toArray cO (0,0))) {f:FuncId} {cap:Array Value} {id:Int} (hi:id=0∨id∈ids s.L) {K:An→ad→Prop}
  (hc:∀B g,BaseOf s id B→Upd No h g→HC PG f ([L4 B.1]++cap.toList) KS (fun e h'=>Upd No g h'∧∀i b,h.size≤b→b<g.size→Upd (· =b) h' i→K e i) g):
  HC PG nQ [.pointer (some ⟨sp,0,none⟩),.int .u32 id,.func (.func f) #[] cap] KS K h:=by
 refine AI (some ⟨sp,0,none⟩) id (.func (.func f) #[] cap) ?_;unfold sX ao cF av bU aO BK eH nv gi OE Hc ae ah nI kH zV uw;refine cf fun y b1 k1=>⟨_,rfl,_,vc (k1.get0 b) 0,EM (v.upd0 k1) hi fun B z g k=>?_⟩
 refine cf fun i b3 p=>eN (c:=nu zQ) (vs:=nu B.1) b3 rfl fun m d w=>ag.2 ?_
 have x:=k.size;have a:Upd No y m:=(k.tr p).own w x;have j:=k1.tr a;have C:=bp b1;have o:=a.size;refine⟨_,vc d 0,_,vc d 1,_,vc d 2,_,vc d 3,_,vc d 4,_,vc d 5,HV.mk' ?_⟩;refine(hc B m z j).mono fun e A ⟨u,t⟩=>?_
 exact yi (c:=PP) (e:=e) (u.get0 (a.get0 b1)) fun n q=>t n h.size (az _) (by omega) q
theorem Qr{W:Nat→Prop}{h:ad}{kind:Int}{x:Hs}{t:Tr}{l:List Pr}(i:TreeIs W h kind x t l)(A:∀y,W y→y<h.size)(u:dM l)(D:l.length≤60000){d:Nat}(q:h[d]? =some (.cells (sE o).toArray bf (0,0))) {K:An→ad→Prop} (s:∀h',Upd No h h'→K (0,0,0,(look l o.2.2.2.1).getD ⟨#[]⟩,(look l o.2.2.2.1).isSome,0,gH,gH,gH,gH,gH) h'):
  HC PG lj [L4 t,.pointer (some ⟨d,0,none⟩)] KS K h:=by
 refine wn t ⟨d,0,none⟩ ?_;unfold pP ao cF av bU aO cC eH Hc ae ah kH uw;refine cf fun E p j=>cf fun C w k=>?_
 have b:=k.get0 p;have a:=j.tr k;have f:=a.size;refine⟨_,vc b 0,_,vc b 1,_,vc b 2,_,vc b 3,_,vc b 4,_,vc b 5,_,vc (a.get0 q) 3,?_⟩;refine P0 (i.upd0 a) (fun y m=>aC (A y m) f) u (by omega) o.2.2.2.1 fun B g=>?_
 have z:=j.size;exact yi (c:=PP) (e:=(0,0,0,(look l o.2.2.2.1).getD ⟨#[]⟩,(look l o.2.2.2.1).isSome,0,gH,gH,gH,gH,gH)) (g.get0 w) fun n v=>s n ((a.tr g).own v z)
theorem N5(v:VaultAt W h vp s)(b:h[sp]? =some (.cells (Jx vp sm last pool).toArray cO (0,0))) (hi:o.2.2.2.2.2.1=0∨o.2.2.2.2.2.1∈ids s.L) (y:∀B,BaseOf s o.2.2.2.2.2.1 B→dM B.2∧B.2.length≤60000) {K:An→ad→Prop}
  (u:∀h' B,BaseOf s o.2.2.2.2.2.1 B→Upd No h h'→K (0,0,0,(look B.2 o.2.2.2.1).getD ⟨#[]⟩,(look B.2 o.2.2.2.1).isSome,0,gH,gH,gH,gH,gH) h'):
  HC PG jR [.pointer (some ⟨sp,0,none⟩),PN o] KS K h:=by
 refine yT (some ⟨sp,0,none⟩) o ?_;unfold rA ao cF av bU aO BK eH Aj Hc;refine cf fun G b1 k1=>cf fun A b2 m=>?_
 have a:=k1.tr m;have c1:=m.get0 b1;have t:=k1.size;have E:=bp b2;refine⟨_,vc c1 5,P2 (cap:= #[.pointer (some ⟨h.size,0,none⟩)]) (v.upd0 a) (a.get0 b) hi fun B C k i=>?_⟩
 obtain⟨w,x⟩:=y B k;have n:=v.upd0 (a.tr i);refine Qr (k.is n) n.g.lt w x (i.get0 c1) fun D d=>?_
 refine⟨d,fun z H p F q=>?_⟩
 have f:Upd No A z:=(i.tr d).own q p;refine yi (c:=PP) (e:=(0,0,0,(look B.2 o.2.2.2.1).getD ⟨#[]⟩,(look B.2 o.2.2.2.1).isSome,0,gH,gH,gH,gH,gH)) (f.get0 b2) fun j g=>u j B k ((a.tr f).own g t)
end
theorem L8{W:Nat→Prop}{kind:Int}(g:kind=0∨kind=1){x:Hs}{h:ad}(B:∀y,W y→y<h.size){K:Option Addr×Int→ad→Prop}
  (z:∀h' sp b gp gm tm bm nm t sm pb cb,VaultAt (fun y=>W y∨VS.M ⟨gp,gm,tm,bm,nm,kind,x,t,[],1,[],[],[]⟩ y) h' b ⟨gp,gm,tm,bm,nm,kind,x,t,[],1,[],[],[]⟩→h'[sp]? =some (.cells (Jx b (some sm) 0 (some ⟨pb,0,none⟩)).toArray cO (0,0))→h'[sm]? =some (.map #[] 0)→PoolAt h' pb cb 16 ((dA 16).map fun j=>((j:Nat):Int)+1)→
   (∀y,VS.M ⟨gp,gm,tm,bm,nm,kind,x,t,[],1,[],[],[]⟩ y→h.size≤y∧y<cb)→h.size≤cb→cb<pb→pb<sm→sm<sp→b<cb→Upd No h h'→K (some ⟨sp,0,none⟩,0) h'):
  HC PG uZ [.int .i64 kind,.agg #[.int .u64 x.k0,.int .u64 x.k1,.int .u64 x.mask]] [.c .ptr,.c (.int .i64)] K h:=by
 refine IL kind (x.k0,x.k1,x.mask) ?_;unfold Bq pj ae wc;refine cf fun E b1 k1=>⟨_,vc b1 0,_,vc b1 1,_,vc b1 2,?_⟩
 have D:=k1.size;refine PS (W:=W) (x:=x) (fun y c=>aC (B y c) k1.size) g fun o b gp gm tm bm nm t v F zM p=>ag.2 ?_
 refine J0 (n:=16) (by omega) (by omega) fun d s q=>?_
 have e:=Upd.push No d (.map #[] 0);have f:=mL d (.map #[] 0);refine KL fun u m=>?_
 have m:u=d.push (.map #[] 0):=m;rw[←m]at e f;have C:=p.size;have w:=bp q.2.1;have A:=bp f;refine cf fun i k a=>z i u.size b gp gm tm bm nm t d.size (o.size+1) o.size (v.upd0 ((s.tr e).tr a)) k (a.get0 f) (q.upd0 (e.tr a)) (fun y c=>⟨by have:=zM y c;omega,v.size c⟩) (by omega) (by omega) w A (bp v.blk) ((((k1.tr p).tr s).tr e).tr a)
end Go.Proofs
namespace Go.Proofs
open Go Go.Lift
def formsL:List (Int×List UInt8×List UInt8):= [(0,[99,114,101,97,116,101],[98,105]),(1,[114,101,109,111,118,101],[98]),(2,[116,97,103],[98,105]),(3,[117,110,116,97,103],[98]),(4,[112,117,116],[98,107,118]),(5,[100,114,111,112],[98,107]),(6,[108,111,97,100],[98,112]),(7,[114,111,108,108,98,97,99,107],[98,105]),(8,[109,101,114,103,101],[98,111,119]),(9,[112,114,117,110,101],[]),(10,[103,101,116],[105,107]),(11,[108,105,115,116],[105]),(12,[100,105,102,102],[105,116]),(13,[112,97,116,99,104],[98,99]),(14,[98,101,103,105,110],[105]),(15,[101,100,105,116],[115,107,118]),(16,[101,114,97,115,101],[115,107]),(17,[108,111,111,107],[115,107]),(18,[102,114,101,101,122,101],[115]),(19,[99,111,109,109,105,116],[115,98]),(20,[99,108,111,115,101],[115]),(21,[110,101,97,114],[105,107,119]),(22,[114,97,110,103,101],[105,114]),(23,[104,101,97,100,115],[]),(24,[116,97,103,115],[]),(25,[118,101,114,115,105,111,110,115],[])]
abbrev Kz(f:Int×List UInt8×List UInt8):List Value:= [.int .i64 f.1,.string (bN f.2.1),.string (bN f.2.2)]
theorem Qv(f:Int×List UInt8×List UInt8):(Kz f).length=3∧0<3:=⟨rfl,by decide⟩
theorem ON{h:ad}{K:SliceV→ad→Prop}(a:∀h',OwnS Kz 3 fX (fun y=>h.size≤y) h' ⟨some ⟨h.size,0,none⟩,26,26⟩ formsL→Upd No h h'→K ⟨some ⟨h.size,0,none⟩,26,26⟩ h'):HC PG tK [] [.c .slice] K h:=by
 refine G2 ?_;unfold zE;have b1:=bh h (formsL.flatMap Kz) fX;have k1:=Upd.hnew No h (formsL.flatMap Kz) fX;refine aU ?_;show K ⟨some (aR h),26,26⟩ (hnew h (formsL.flatMap Kz) fX)
 generalize hnew h (formsL.flatMap Kz) fX=h1 at b1 k1;exact a h1 ⟨rfl,Qv,az _,.inr ⟨h.size,[],rfl,az _,by rw[List.append_nil];exact b1,rfl⟩⟩ k1
abbrev Ea(k:Int):xB:=(k,⟨#[]⟩,⟨#[]⟩,⟨#[]⟩,⟨#[]⟩,0,0,0,0,false,⟨#[]⟩,⟨#[]⟩,false,gH,gH)
theorem N2{a b:List UInt8}(h:bN a=bN b):a=b:=by
 have:=congrArg (fun x:ByteArray=>x.data.toList) h
 simpa using this
theorem Ms{q w:List UInt8}{J:List (List UInt8)}(hx:q.length≤1000000)(hw:mC 32 q=w::J)(hlen:∀x∈J,x.length≤1000000){k:Nat}{kd:Int}{E:List UInt8}(hf:formsL[k]? =some (kd,w,E)) (hu:∀j f,j<k→formsL[j]? =some f→f.2.1≠w)
  (hp:∀p∈E,CQ p) {oF:xB} (hr:E.foldl (fun x p=>Lm p x) ((J,true),Ea kd)=(([],true),oF)) {h:ad} (l:Laid h) (h4:4≤h.size) {K:xB×Bool→ad→Prop} (hk:∀h',Upd No h h'→K (oF,true) h'):
  HC PG tL [.string (bN q)] [.agg [.int .i64,.str,.str,.str,.str,.int .u32,.int .u32,.int .i64,.int .i64,.bool,.str,.str,.bool,.slice,.slice],.c .bool] K h:=by
 refine G4 (bN q) ?_;unfold zG bA dU ao cF av bU aO EY cC cX bL eH nv Jh eI RX Sa Sb Rd;have hk26:k<26:=(bi.1 hf).1;have b1:=bh h (sE (Ea 0)) bf;have k1:=Upd.hnew No h (sE (Ea 0)) bf;have z1:=fe h (sE (Ea 0)) bf;refine aU ?_;show HC PG mQ _ _ _ (hnew h (sE (Ea 0)) bf)
 generalize hnew h (sE (Ea 0)) bf=h1 at b1 k1 z1;refine CG (by rw[ga];exact hx) fun P d ow k3=>ON fun h5 of k5=>?_
 rw[show(bN q).data.toList=q from by simp,hw]at ow
 have hsw:=ow.sl (W:=fun y=>P.size≤y) (fun y _ S=>by omega)
 have X:=ow.cap;have hsf:=of.sl (W:=fun y=>h5.size≤y) (fun y _ S=>by omega)
 have z3:=k3.size;have z5:=k5.size;have kk:=(k1.tr k3).tr k5;refine LoopP.ghost (fun(n:Nat) (t:Int) H=>t=(n:Int)∧n≤k∧Upd No h5 H) (fun n=>k-n) 0 ⟨rfl,cu _,Upd.refl _ _⟩ ?_
 rintro I n t H ⟨rfl,hn,O⟩ hI;refine aG (fun _=>Join.plain ?_) fun c=>absurd (show((n:Int)<((26:Nat):Int)) by omega) c
 obtain⟨f,v⟩:∃f,formsL[n]? =some f:=⟨_,List.getElem?_eq_getElem (show n<formsL.length from Nat.lt_of_le_of_lt hn hk26)⟩
 obtain⟨fk,fn,fp⟩:=f;obtain⟨a,ha,_,N⟩:=(hsf.upd O fun _ h=>h.elim).at v
 have ha:a=⟨P.size,0,none⟩:=(aZ.inj ha).symm;have z8:=O.size;rw[aB];refine⟨⟨by omega,show((n:Int)<((26:Nat):Int)) by omega⟩,a,by rw[ha],fk,N 0 _ rfl,bN fn,N 1 _ rfl,bN fp,N 2 _ rfl,aU ?_⟩
 have R:=bh H [.int .i64 0,.string ⟨#[]⟩,.string ⟨#[]⟩] fX;have Z:=Upd.hnew No H [.int .i64 0,.string ⟨#[]⟩,.string ⟨#[]⟩] fX;have z14:=fe H [.int .i64 0,.string ⟨#[]⟩,.string ⟨#[]⟩] fX;generalize hnew H [.int .i64 0,.string ⟨#[]⟩,.string ⟨#[]⟩] fX=h14 at R Z z14;refine eN (c:= [.int .i64 0,.string ⟨#[]⟩,.string ⟨#[]⟩]) (vs:=Kz (fk,fn,fp)) R rfl fun o L u15=>?_
 have A:Upd No H o:=Z.own u15 (az _);have z15:=A.size;have C:=hsw.upd ((k5.tr O).tr A) fun _ h=>h.elim
 obtain⟨aw,haw,_,hwc⟩:=C.at0 (g:=fun w=>Value.string (bN w)) (i:=0) (x:=w) rfl
 have hlw:=hsw.len;simp only[aV]at hlw;refine⟨bN fn,vc L 1,⟨by omega,by omega⟩,aw,haw,bN w,hwc,?_⟩
 rw[f8];by_cases he:fn=w
 rotate_left
 ·rw[decide_eq_false (fun e=>he (N2 e))]
  have D:n<k:=by
   rcases bQ n k with h|h
   ·exact h
   ·have:n=k:=by omega
    subst this;rw[hf]at v;exact absurd (by injection v with e;injection e with _ e;injection e with e _;exact e.symm) he
  refine ay.2 ?_;show I (ac .i64 ((n:Int)+1)) o
  rw[eu D (by omega)];exact hI (n+1) _ _ ⟨rfl,D,O.tr A⟩ (by omega)
 ·subst he
  have D:n=k:=by
   rcases bQ n k with h|h
   ·exact absurd rfl (hu n _ h v)
   ·omega
  subst D;rw[hf]at v;injection v with e;injection e with e1 e;injection e with _ e2;subst e1 e2;rw[decide_eq_true rfl];refine ag.2 ⟨kd,vc L 0,aU ?_⟩;have b20:=bh o (sE (Ea 0)) bf;have Q:=Upd.hnew No o (sE (Ea 0)) bf;have z20:=fe o (sE (Ea 0)) bf;generalize hnew o (sE (Ea 0)) bf=h20 at b20 Q z20;refine eN (c:=sE (Ea 0)) (vs:=sE (Ea kd)) b20 rfl fun s b21 Y=>⟨⟨by omega,by omega⟩,aU ?_⟩
  have B:Upd No o s:=Q.own Y (az _);have z21:=B.size;have G:=C.upd B fun _ h=>h.elim
  rw[show(1:Int).toNat=1 from rfl]
  have b22:=bh s [.slice (aM d.a 1 d.cap 1) (d.len-1) (d.cap-1),.bool true] jI;have u:=Upd.hnew No s [.slice (aM d.a 1 d.cap 1) (d.len-1) (d.cap-1),.bool true] jI;have z22:=fe s [.slice (aM d.a 1 d.cap 1) (d.len-1) (d.cap-1),.bool true] jI;generalize hnew s [.slice (aM d.a 1 d.cap 1) (d.len-1) (d.cap-1),.bool true] jI=h22 at b22 u z22
  refine⟨bN E,vc ((B.tr u).get0 L) 2,aU ?_⟩;have z:=Upd.push No h22 (.stringIter (bN E) 0);have b24:=mL h22 (.stringIter (bN E) 0);have z24:(h22.push (.stringIter (bN E) 0)).size=h22.size+1:=by simp
  generalize h22.push (.stringIter (bN E) 0)=h24 at z b24 z24;have F:=(G.sub (l:=1) (hi:=d.len) (m:=d.cap) (c:=d.cap-1) (by omega) (by simp only[aV];omega) X).upd (u.tr z) fun _ h=>h.elim
  have e3:((fn::J).drop 1).take (d.len-1)=J:=by show J.take _=_;exact List.take_of_length_le (by omega)
  rw[e3]at F;have r24:RdAt (fun y=>P.size≤y) h24 s.size (J,true):=⟨⟨⟨aM d.a 1 d.cap 1,d.len-1,d.cap-1⟩,z.get0 b22,F,by show d.len-1≤d.cap-1;omega⟩,by show P.size≤s.size;omega,hlen⟩
  have zb:=Y.size;have kA:Upd No h h24:=((((kk.tr O).tr A).tr B).tr u).tr z;refine Mq (b:=s.size) (ob:=o.size) (i:=h22.size) hp (l.upd0 kA) (by omega) (by omega) (by omega) r24 ((u.tr z).get0 b21) (by omega) (by show P.size≤o.size;omega) (by omega) (by omega) (by show P.size≤h22.size;omega) b24 fun h39 V U T=>?_
  rw[hr]at V U;obtain⟨sp,hc,hs,hl⟩:=V.ex;have hsl:sp.len=0:=hs.len;refine Join.plain ⟨_,rfl,true,vc hc 1,ay.2 ⟨_,rfl,sp,vc hc 0,?_⟩⟩;rw[hsl];refine ay.2 (Oh U (eN (c:=sE (Ea 0)) (vs:=sE oF) (T.get (((((((k3.tr k5).tr O).tr A).tr B).tr u).tr z).get0 b1) (show ¬(h.size=s.size∨h.size=o.size∨h.size=h22.size) by omega)) rfl fun h55 b55 u55=>Oh b55 (hk h55 ?_)))
  exact(kA.trans T fun y S=>.inr (by omega)).trans u55 fun y S=>.inr (by have S:y=h.size:=S;omega)
end Go.Proofs
namespace Go.Proofs
open Go Go.Lift
section
variable {W:Nat→Prop} {h:ad} {sp vp:Nat} {s:VS} {sm:Option Nat} {last:Int} {pool:Option Addr} {o:xB}
theorem VaultAt.hM(v:VaultAt W h vp s):∀y,s.M y→y<h.size:=fun y a=>v.g.lt y (v.w y a)
theorem Iq(v:VaultAt W h vp s)(b:h[sp]? =some (.cells (Jx vp sm last pool).toArray cO (0,0))) (ek:o.1=0) {K:An→ad→Prop} (g:∀h',Upd s.M h h'→VaultAt W h' vp {s with B:=if wd s.B s.L o.2.1 o.2.2.2.2.2.1 false=0 then m5 s.B o.2.1 o.2.2.2.2.2.1 else s.B}→K (wd s.B s.L o.2.1 o.2.2.2.2.2.1 false,0,0,⟨#[]⟩,false,0,gH,gH,gH,gH,gH) h'):
  HC PG fH [.pointer (some ⟨sp,0,none⟩),PN o] KS K h:=
 O3 (k:=0) ek (by omega) rfl fun p n a j f=>Hr (v.pro a) (a.get0 b) fun h' u m=>⟨s.M,u,fun e=>by have:=v.hM _ e;omega,fun i c=>g i ((a.wide.tr u).trans c fun y d=>.inr (by have d:y=n:=d;omega)) ((m.own v.hM c j f).dn v.w)⟩
theorem O4(v:VaultAt W h vp s)(b:h[sp]? =some (.cells (Jx vp sm last pool).toArray cO (0,0))) (d:¬s.M sp) (ek:o.1=4) {hd:Int} (m:cV s.B o.2.1=some hd) (t:hd=0∨hd∈ids s.L) {N:Nat} (C:N≤900) (n:∀B,BaseOf s hd B→Few N B.2) (p:o.2.2.2.1.size≤30) (D:o.2.2.2.2.1.size≤30) {id:Int} (c:(j3 s.L s.nx (nz [hd])).1=(id,0)) {K:An→ad→Prop}
  (z:∀h' B g,BaseOf s hd B→Upd s.M h h'→VaultAt W h' vp (wY s o.2.1 (g,iG (o.2.2.2.1,o.2.2.2.2.1) B.2) (nz [hd])).2→K (0,id,0,⟨#[]⟩,false,0,gH,gH,gH,gH,gH) h'):
  HC PG fH [.pointer (some ⟨sp,0,none⟩),PN o] KS K h:=
 O3 (k:=4) ek (by omega) rfl fun F w f x A=>N4 (v.pro f) (f.get0 b) d m t C n p D c fun h' B g E u q=>⟨s.M,u,fun e=>by have:=v.hM _ e;omega,fun j i=>z j B g E ((f.wide.tr u).trans i fun y a=>.inr (by have a:y=w:=a;omega)) ((q.own (fun y a=>v.hM y ((zW y).1 a)) i x A).dn fun y a=>v.w y ((zW y).1 a))⟩
theorem O5(v:VaultAt W h vp s)(b:h[sp]? =some (.cells (Jx vp sm last pool).toArray cO (0,0))) (ek:o.1=10) (hi:o.2.2.2.2.2.1=0∨o.2.2.2.2.2.1∈ids s.L) (g:∀B,BaseOf s o.2.2.2.2.2.1 B→dM B.2∧B.2.length≤60000) {K:An→ad→Prop}
  (c:∀h' B,BaseOf s o.2.2.2.2.2.1 B→Upd No h h'→K (0,0,0,(look B.2 o.2.2.2.1).getD ⟨#[]⟩,(look B.2 o.2.2.2.1).isSome,0,gH,gH,gH,gH,gH) h'):
  HC PG fH [.pointer (some ⟨sp,0,none⟩),PN o] KS K h:=
 O3 (k:=10) ek (by omega) rfl fun m j a f _=>N5 (v.upd0 a) (a.get0 b) hi g fun h' B i u=>⟨No,u,fun h=>h,fun d e=>c d B i ((a.tr u).own e f)⟩
end
abbrev pn:ByteArray:=⟨#[109,97,105,110]⟩
end Go.Proofs
namespace Go.Proofs
open Go Go.Lift
theorem Ob{h:ad}{K:ByteArray→ad→Prop}(a:K ⟨#[111,107]⟩ h):HC PG rj [.int .i64 0] [.c .str] K h:=by
 refine IY 0 ?_;unfold BD;exact ag.2 a
abbrev iV(n:Int):Value:=.int .i64 n
theorem ME(h:ad):MapAt kStr iV (kJ (kJ (h.push (.map #[] 0)) h.size (.string ⟨#[99,104,97,109,112]⟩) (.int .i64 0)) h.size (.string ⟨#[114,97,100,105,120]⟩) (.int .i64 1)) h.size (m5 (m5 [] (⟨#[99,104,97,109,112]⟩:ByteArray) (0:Int)) (⟨#[114,97,100,105,120]⟩:ByteArray) (1:Int)):=
 ((MapAt.new h).put _ _).put _ _
theorem Fa(h:ad):Upd No h (kJ (kJ (h.push (.map #[] 0)) h.size (.string ⟨#[99,104,97,109,112]⟩) (.int .i64 0)) h.size (.string ⟨#[114,97,100,105,120]⟩) (.int .i64 1)):=
 ((Upd.push No h (.map #[] 0)).trans (sI (M:=(· =h.size)) _ _ _ rfl) fun y a=>.inr (by have a:y=h.size:=a;omega)).trans (sI (M:=(· =h.size)) _ _ _ rfl) fun y a=>.inr (by have a:y=h.size:=a;omega)
theorem Ov{h:ad}{d:Option Addr}{s:SliceV}(a:s.len≠5){K:ByteArray×Bool→ad→Prop}(b:∀h',Upd No h h'→K (⟨#[]⟩,false) h'):HC PG jX [.pointer d,.slice s.a s.len s.cap] [.c .str,.c .bool] K h:=by
 refine rt d s ?_;unfold m9 bA dU cg pj;refine aU ⟨h.size,rfl,(MapAt.new (E:=kStr) (g:=iV) h).isMap,aU ⟨h.size,rfl,(((MapAt.new (E:=kStr) (g:=iV) h)).put _ _).isMap,aU (Join.plain (CondP.intro (fun _=>ay.2 (b _ (Fa h))) fun e=>?_))⟩⟩
 have:s.len=5:=by
  have e:(s.len:Int)=5:=by simpa using e
  omega
 exact absurd this a
theorem Jr{h:ad}{d:Option Addr}{s:SliceV}(a:s.len≠2){K:ByteArray×Bool→ad→Prop}(b:K (⟨#[]⟩,false) h):HC PG ln [.pointer d,.slice s.a s.len s.cap] [.c .str,.c .bool] K h:=by
 refine ww d s ?_;unfold pT bA dU cg;refine Join.plain (CondP.intro (fun _=>ay.2 b) fun e=>?_)
 have:s.len=2:=by
  have e:(s.len:Int)=2:=by simpa using e
  omega
 exact absurd this a
theorem SL{n:Nat}(b:n<4294967296){h:ad}(l:Laid h){K:ByteArray→ad→Prop}(a:∀h',Upd No h h'→K (bN (gM n)) h'):HC PG sP [.int .u32 (n:Int)] [.c .str] K h:=by
 refine Ng (n:Int) ?_;unfold FJ xX;rw[show ac .u64 (n:Int)=(n:Int)from by rw[IntKind.wrap_u64];omega]
 exact wG (by omega) l.tab a
theorem Mu{W0:Nat→Prop}{h:ad}(o:∀y,W0 y→y<h.size){b:Nat}(hd:h[b]? =some (.cells #[.pointer none] fY (0,0))) (l:Laid h) (_:4≤b) {s:SliceV} {W:Nat→Prop} (u:Sl Sj 1 W h s [[111,112,101,110],[114,97,100,105,120],[48],[48],[48]]) {K:ByteArray×Bool→ad→Prop}
  (N:∀f h' sp n gp gm tm bm nm t sm pb k,VaultAt (fun y=>W0 y∨VS.M ⟨gp,gm,tm,bm,nm,1,⟨0,0,0⟩,t,[],1,[],[],[]⟩ y) f n ⟨gp,gm,tm,bm,nm,1,⟨0,0,0⟩,t,[],1,[],[],[]⟩→f[sp]? =some (.cells (Jx n (some sm) 0 (some ⟨pb,0,none⟩)).toArray cO (0,0))→
   (∀y,VS.M ⟨gp,gm,tm,bm,nm,1,⟨0,0,0⟩,t,[],1,[],[],[]⟩ y→h.size≤y∧y<k)→k<sp→Upd No h f→h'[b]? =some (.cells #[.pointer (some ⟨sp,0,none⟩)] fY (0,0))→Upd (· =b) f h'→K (⟨#[111,107]⟩,true) h'):
  HC PG jX [.pointer (some ⟨b,0,none⟩),.slice s.a s.len s.cap] [.c .str,.c .bool] K h:=by
 refine rt (some ⟨b,0,none⟩) s ?_;unfold m9 bA dU cg pj;refine aU ⟨h.size,rfl,(MapAt.new (E:=kStr) (g:=iV) h).isMap,aU ⟨h.size,rfl,(((MapAt.new (E:=kStr) (g:=iV) h)).put _ _).isMap,aU ?_⟩⟩;have z:=ME h;have k1:=Fa h;generalize kJ (kJ (h.push (.map #[] 0)) h.size (.string ⟨#[99,104,97,109,112]⟩) (.int .i64 0)) h.size (.string ⟨#[114,97,100,105,120]⟩) (.int .i64 1)=h1 at z k1
 have a:=u.upd k1 fun _ h=>h.elim
 have c:s.len=5:=u.len;obtain⟨L,D,_,c0⟩:=a.at0 (g:=fun w=>Value.string (bN w)) (i:=0) rfl
 obtain⟨F,e1,_,c1⟩:=a.at0 (g:=fun w=>Value.string (bN w)) (i:=1) rfl
 refine Join.plain (CondP.intro (fun e=>absurd e (by rw[c];decide)) fun _=>⟨⟨by omega,by omega⟩,L,D,_,c0,?_⟩)
 refine CondP.intro (fun e=>absurd e (by decide+kernel)) fun _=>⟨⟨by omega,by omega⟩,F,e1,_,c1,_,_,z.get (⟨#[114,97,100,105,120]⟩:ByteArray) 0,⟨by omega,by omega⟩,?_⟩
 obtain⟨C,e2,_,P⟩:=a.at0 (g:=fun w=>Value.string (bN w)) (i:=2) rfl
 have Y:nA (bN [48]).data.toList=some 0:=by
  have:nA (gM 0)=some 0:=ym (by omega);rw[lV (by omega)]at this;exact this
 refine⟨C,e2,_,P,qd (x:=bN [48]) (by decide) (l.upd0 k1) fun f d=>⟨⟨by omega,by omega⟩,?_⟩⟩
 obtain⟨X,B,_,I⟩:=(a.upd d fun _ h=>h.elim).at0 (g:=fun w=>Value.string (bN w)) (i:=3) rfl
 refine⟨X,B,_,I,qd (x:=bN [48]) (by decide) ((l.upd0 k1).upd0 d) fun Z p=>⟨⟨by omega,by omega⟩,?_⟩⟩
 obtain⟨U,V,_,H⟩:=(a.upd (d.tr p) fun _ h=>h.elim).at0 (g:=fun w=>Value.string (bN w)) (i:=4) rfl
 refine⟨U,V,_,H,qd (x:=bN [48]) (by decide) (((l.upd0 k1).upd0 d).upd0 p) fun h4 S=>?_⟩
 rw[Y];have Q:cV (m5 (m5 [] (⟨#[99,104,97,109,112]⟩:ByteArray) (0:Int)) (⟨#[114,97,100,105,120]⟩:ByteArray) (1:Int)) (⟨#[114,97,100,105,120]⟩:ByteArray)=some 1:=by decide+kernel
 rw[Q];have m:=((k1.tr d).tr p).tr S;refine Join.plain (ag.2 (ag.2 (ag.2 (ag.2 ?_))));refine L8 (W:=W0) (kind:=1) (.inr rfl) (x:=⟨0,0,0⟩) (fun y j=>aC (o y j) m.size) fun G sp n gp gm tm bm nm t sm pb k T bs J pl hM q1 q2 q3 q4 q5 v=>⟨_,rfl,?_⟩
 have q:=(m.tr v).get0 hd;have z4:=m.size;refine tq q (by simp) rfl fun A R O=>Ob (N G A sp n gp gm tm bm nm t sm pb k T bs (fun y j=>⟨by have:=(hM y j).1;omega,(hM y j).2⟩) (by omega) (m.tr v) R O)
end Go.Proofs
namespace Go.Proofs
open Go Go.Lift
abbrev IG(e:An):Value:=.agg (RQ e).toArray
theorem KM{h:ad}{cs:List Value}{t:TypeId}{k:ad→Prop}(a:∀h1,h1[h.size]? =some (.cells cs.toArray t (0,0))→Upd No h h1→k h1):At (hnew h cs t) k:=a _ (bh ..) (Upd.hnew ..)
theorem Kd{e:An}{h:ad}{K:ByteArray→ad→Prop}(a:∀h',Upd No h h'→K ⟨#[111,107]⟩ h'):HC PG sg [.int .i64 0,IG e] [.c .str] K h:=by
 refine Ez 0 e ?_;unfold wT ao cF av bU aO BK Q9 Re eI;refine KM fun b b1 k1=>?_
 exact ag.2 (ag.2 (Join.plain (ag.2 (ag.2 (ag.2 (ag.2 (Join.plain (ag.2 (ag.2 (ag.2 (a _ k1)))))))))))
theorem NL{e:An}(a:e.1=0){h:ad}{K:ByteArray→ad→Prop}(b:∀h',Upd No h h'→K ⟨#[111,107]⟩ h'):HC PG mq [.int .i64 0,IG e] [.c .str] K h:=by
 refine vC 0 e ?_;unfold rP ao cF av bU aO BK Q9 Re;refine KM fun f b1 k1=>⟨e.1,vc b1 0,?_⟩
 rw[a];refine ag.2 (Join.plain (Join.plain (ag.2 (Join.plain (ag.2 (ag.2 (ag.2 (ag.2 (ag.2 (ag.2 (ag.2 (?_))))))))))));exact⟨_,vc b1 0,_,vc b1 1,_,vc b1 2,_,vc b1 3,_,vc b1 4,_,vc b1 5,_,vc b1 6,_,vc b1 7,_,vc b1 8,_,vc b1 9,_,vc b1 10,Kd (e:=e) fun d c=>b d (k1.tr c)⟩
theorem OM{x:ByteArray}(hx:x.size≤3000000){h:ad}{K:ByteArray→ad→Prop}(a:K ((⟨#[105,115,32]⟩:ByteArray)++x) h):HC PG p0 [.bool true,.string x] [.c .str] K h:=by
 refine G1 true x ?_;unfold zD;refine ag.2 ⟨?_,a⟩;have:(⟨#[105,115,32]⟩:ByteArray).size=3:=rfl;omega
theorem NK{e:An}(a:e.1=0){n:Nat}(d:n<4294967296)(hi:e.2.1=(n:Int)){h:ad}(l:Laid h){K:ByteArray→ad→Prop}(b:∀h',Upd No h h'→K (((⟨#[118,101,114,115,105,111,110,32]⟩:ByteArray)++bN (gM n))++(⟨#[]⟩:ByteArray)) h'):HC PG mq [.int .i64 4,IG e] [.c .str] K h:=by
 refine vC 4 e ?_;unfold rP ao cF av bU aO BK Q9 Re;refine KM fun j b1 k1=>⟨e.1,vc b1 0,?_⟩
 rw[a];refine ag.2 (Join.plain (Join.plain (ag.2 (Join.plain (ay.2 (ay.2 (?_)))))));have f:=O7 (n:=n) (by omega);have k:(⟨#[118,101,114,115,105,111,110,32]⟩:ByteArray).size=8:=rfl;have i:(⟨#[]⟩:ByteArray).size=0:=rfl;have es:=ga (gM n);refine⟨e.2.1,vc b1 1,?_⟩;rw[hi];refine SL d (l.upd0 k1) fun g c=>⟨by omega,?_,LR (b g (k1.tr c))⟩
 rw[ByteArray.size_append];omega
theorem L5{e:An}(b:e.1=0)(hi:e.2.2.2.2.1=true){v:ByteArray}(f:e.2.2.2.1=v)(d:v.size≤1000000){h:ad}{K:ByteArray→ad→Prop}(c:∀h',Upd No h h'→K (((⟨#[105,115,32]⟩:ByteArray)++bN (xm v.data.toList))++(⟨#[]⟩:ByteArray)) h'):HC PG mq [.int .i64 10,IG e] [.c .str] K h:=by
 refine vC 10 e ?_;unfold rP ao cF av bU aO BK Q9 Re;refine KM fun k b1 k1=>⟨e.1,vc b1 0,?_⟩
 rw[b];refine ag.2 (Join.plain (Join.plain (ag.2 (Join.plain (ag.2 (ag.2 (ag.2 (ag.2 (ag.2 (ag.2 (ay.2 (?_))))))))))));have m:(⟨#[105,115,32]⟩:ByteArray).size=3:=rfl;have i:(⟨#[]⟩:ByteArray).size=0:=rfl;have j:(bN (xm v.data.toList)).size≤2000001:=by
  rw[ga,xm];split
  ·simp
  ·rw[uS,rY];omega
 refine⟨e.2.2.2.2.1,vc b1 4,e.2.2.2.1,vc b1 3,?_⟩;rw[hi,f];refine Ks d fun g a=>⟨?_,OM (by omega) ⟨?_,c g (k1.tr a)⟩⟩
 ·have:=a.cell0 (vc b1 4)
  rw[hi]at this;exact this
 ·rw[ByteArray.size_append];omega
end Go.Proofs
namespace Go.Proofs
open Go Go.Lift
theorem Dp{a w:List UInt8}{m:List (List UInt8)}(hx:a.length≤1000000)(O:mC 32 a=w::m)(h5:m.length≠4)(L:m.length≠1)(q:∀x∈m,x.length≤1000000){k:Nat}{kd:Int}{A:List UInt8}(T:formsL[k]? =some (kd,w,A)) (hu:∀j f,j<k→formsL[j]? =some f→f.2.1≠w)
  (U:∀p∈A,CQ p) {g:xB} (Z:A.foldl (fun x p=>Lm p x) ((m,true),Ea kd)=(([],true),g)) {h:ad} (l:Laid h) (h4:4≤h.size) {H sp:Nat} (hd:h[H]? =some (.cells #[.pointer (some ⟨sp,0,none⟩)] fY (0,0))) {K:ByteArray→ad→Prop}
  (W:∀h1 ob,Upd No h h1→h.size≤ob→ob<h1.size→h1[ob]? =some (.cells (sE g).toArray bf (0,0))→HC PG fH [.pointer (some ⟨sp,0,none⟩),PN g] KS (fun e L=>aE L (adr ⟨ob,0,none⟩ 0)=some (.int .i64 g.1)∧HC PG mq [.int .i64 g.1,IG e] [.c .str] K L) h1):
  HC PG f7 [.pointer (some ⟨H,0,none⟩),.string (bN a)] [.c .str] K h:=by
 refine vD (some ⟨H,0,none⟩) (bN a) ?_;unfold qS bA dU Ql ao cF av bU aO Su nv Jh eI gi Aj Jo;refine ag.2 (CG (by rw[ga];exact hx) fun h4' B ow k4=>KM fun J b5 k5=>?_)
 rw[show(bN a).data.toList=a from by simp,O]at ow
 have X:B.len=m.length+1:=ow.len;have z:=k4.tr k5;refine LoopP.ghost (fun(n:Nat) (t:Int) N=>t=(n:Int)∧n≤2∧Upd No J N) (fun n=>2-n) 0 ⟨rfl,cu _,Upd.refl _ _⟩ ?_
 rintro I n t N ⟨rfl,hn,i⟩ P;refine aG (fun u=>?_) fun V=>?_
 ·have u:n<2:=by have:(n:Int)<2:=u;omega
  have Q:=i.get0 b5;rcases(show n=0∨n=1 by omega)with rfl|rfl
  ·refine⟨⟨by decide,by decide⟩,_,rfl,_,vc Q 0,HV.mk' (Ov (s:=B) (by omega) fun h9 S=>ag.2 ?_)⟩
   exact P 1 _ _ ⟨rfl,by omega,i.tr S⟩ (by omega)
  ·refine⟨⟨by decide,by decide⟩,_,rfl,_,vc Q 1,HV.mk' (Jr (s:=B) (by omega) (ag.2 ?_))⟩
   exact P 2 _ _ ⟨rfl,by omega,i⟩ (by omega)
 ·refine Ms hx O q T hu U Z (l.upd0 (z.tr i)) (by have:=(z.tr i).size;omega) fun y o=>KM fun Y D F=>?_
  refine eN (c:=sE (Ea 0)) (vs:=sE g) D rfl fun v b G=>?_
  have C:Upd No y v:=F.own G (az _);have R:=((z.tr i).tr o).tr C;have d:=R.get0 hd;have E:=((z.tr i).tr o).size;refine Join.plain (ag.2 (ag.2 ⟨_,rfl,_,vc d 0,ag.2 (ag.2 ⟨g.1,vc b 0,_,rfl,_,vc d 0,Oh b ?_⟩)⟩));exact W v y.size R E (bp b) b
end Go.Proofs
namespace Go.Proofs
open Go Go.Lift
theorem MQ{W0:Nat→Prop}{a:List UInt8}(hx:a.length≤1000000)(s:mC 32 a= [[111,112,101,110],[114,97,100,105,120],[48],[48],[48]]){h:ad}(i:∀y,W0 y→y<h.size){b:Nat}(hd:h[b]? =some (.cells #[.pointer none] fY (0,0))) (l:Laid h) (k:4≤b) {K:ByteArray→ad→Prop}
  (v:∀c h' sp f gp gm tm bm nm t sm pb e,VaultAt (fun y=>W0 y∨VS.M ⟨gp,gm,tm,bm,nm,1,⟨0,0,0⟩,t,[],1,[],[],[]⟩ y) c f ⟨gp,gm,tm,bm,nm,1,⟨0,0,0⟩,t,[],1,[],[],[]⟩→c[sp]? =some (.cells (Jx f (some sm) 0 (some ⟨pb,0,none⟩)).toArray cO (0,0))→
   (∀y,VS.M ⟨gp,gm,tm,bm,nm,1,⟨0,0,0⟩,t,[],1,[],[],[]⟩ y→h.size≤y∧y<e)→e<sp→Upd No h c→h'[b]? =some (.cells #[.pointer (some ⟨sp,0,none⟩)] fY (0,0))→Upd (· =b) c h'→K ⟨#[111,107]⟩ h'):
  HC PG f7 [.pointer (some ⟨b,0,none⟩),.string (bN a)] [.c .str] K h:=by
 refine vD (some ⟨b,0,none⟩) (bN a) ?_;unfold qS bA dU Ql ao cF av bU aO Su nv Jh eI gi Aj Jo;refine ag.2 (CG (by rw[ga];exact hx) fun m E ow B=>KM fun n D p=>?_)
 rw[show(bN a).data.toList=a from by simp,s]at ow
 have g:=B.tr p;have u:=(ow.sl (W:=fun y=>m.size≤y) (fun y _ d=>by omega)).upd p fun _ h=>h.elim
 have j:=g.get0 hd;have w:=g.size;refine LoopP.ghost (fun(_:Unit) (t:Int) o=>t=0∧o=n) (fun _=>0) () ⟨rfl,rfl⟩ ?_
 rintro I _ t o ⟨e1,e2⟩ F;subst e1 e2;refine ay.2 ⟨⟨by decide,by decide⟩,_,rfl,_,vc D 0,HV.mk' (Mu (fun y d=>aC (i y d) w) j (l.upd0 g) k u fun c h' sp f gp gm tm bm nm t sm pb e C bs hM q z A x=>ay.2 ?_)⟩
 exact v c h' sp f gp gm tm bm nm t sm pb e C bs (fun y d=>⟨by have:=(hM y d).1;omega,(hM y d).2⟩) q (g.tr z) A x
theorem Ia{c:UInt8}:∀{l:List UInt8},c∉l→Lib.indexByte l c= -1
 | [],_=>rfl
 |a::l,h=>by
  have b:(a==c)=false:=beq_eq_false_iff_ne.2 fun e=>h (by rw[e];exact List.mem_cons_self ..)
  have d:=Ia (l:=l) fun e=>h (List.mem_cons_of_mem _ e)
  simp only[Lib.indexByte,b,d];rfl
theorem JL{a:List UInt8}{h:ad}{fv:Value}{sb tb nb:Nat}(hfv:fv=.func (.func ic) #[] #[.pointer (some ⟨sb,0,none⟩),.pointer (some ⟨tb,0,none⟩),.pointer (some ⟨nb,0,none⟩)])(hs:h[sb]? =some (.cells #[.string ⟨#[10]⟩] eS (0,0))) (ht:h[tb]? =some (.cells #[.string (bN a)] eS (0,0))) (hn:h[nb]? =some (.cells #[.int .i64 0] Hm (0,0)))
  (q1:tb≠sb) (q2:tb≠nb) (hx:a.length≤1000000)
  {BODY:ByteArray→(Option Ex→ad→Prop)→ad→Prop} {N:ad→Prop} {X:Nat→ad→Prop} {R:ad→Prop} (Inv:Nat→ad→Prop) (M:Nat→Prop)
  (K:Inv 0 h) (d:∀k h1 h2,Inv k h1→h.size≤h1.size→Upd (fun b=>b=tb∨b=h.size∨b=h.size+1) h1 h2→Inv k h2)
  (hM:∀b,M b→b≠tb∧b≠sb∧b≠nb∧b≠h.size∧b≠h.size+1)
  (step:∀k w h1 (KK:Option Ex→ad→Prop),Inv k h1→h.size+2≤h1.size→(mC 10 a)[k]? =some w→(∀h2,Inv (k+1) h2→Upd M h1 h2→KK none h2)→BODY (bN w) KK h1)
  (fin:∀h1,Inv (mC 10 a).length h1→h1[h.size]? =some (.deferred (some []))→N h1):
  RangeP PG fv [.c .str] h (fun EX bz (x:ByteArray) k G=>(G[(aA h+1)]? =some EX∧At (Array.setIfInBounds G (aA h+1) bz) (fun h69=>BODY x k h69))) N X R:=by
 subst hfv;refine⟨fun lo hlo u=>⟨ic,#[],_,rfl,?_⟩⟩
 have zs:=bp hs;have zt:=bp ht;have zn:=bp hn;have k1:Upd No h ((h.push (.deferred (some []))).push (lo .ready none)):=(Upd.push No _ _).tr (Upd.push No _ _);have l2:((h.push (.deferred (some []))).push (lo .ready none))[h.size+1]? =some (lo .ready none):=by
  have:=mL (h.push (.deferred (some []))) (lo .ready none);rwa [Array.size_push]at this
 have l1:((h.push (.deferred (some []))).push (lo .ready none))[h.size]? =some (.deferred (some [])):=(Upd.push No _ _).get0 (mL h _);have i1:=d 0 _ _ K (az _) k1.wide;generalize (h.push (.deferred (some []))).push (lo .ready none)=h1 at k1 l2 l1 i1;have s1:=k1.get0 hs;have t1:=k1.get0 ht;have E:=k1.get0 hn;refine xQ (.func (.yield (h.size+1)) #[] #[]) ⟨sb,0,none⟩ ⟨tb,0,none⟩ ⟨nb,0,none⟩ ?_
 unfold m8 eI;refine⟨_,aI s1,ag.2 ?_⟩;have round:∀(k:Nat) (w:List UInt8) (h':ad) (KK:Bool→ad→Prop),Inv k h'→(mC 10 a)[k]? =some w→h.size≤h'.size→h'[sb]? =some (.cells #[.string ⟨#[10]⟩] eS (0,0))→h'[nb]? =some (.cells #[.int .i64 0] Hm (0,0))→h'[h.size]? =some (.deferred (some []))→h'[h.size+1]? =some (lo .ready none)→∀v,h'[tb]? =some (.cells v eS (0,0))→
   (∀h2,Inv (k+1) h2→h.size≤h2.size→h2[sb]? =some (.cells #[.string ⟨#[10]⟩] eS (0,0))→h2[nb]? =some (.cells #[.int .i64 0] Hm (0,0))→h2[h.size]? =some (.deferred (some []))→h2[h.size+1]? =some (lo .ready none)→h2[tb]? =some (.cells v eS (0,0))→KK true h2)→HV PG (.func (.yield (h.size+1)) #[] #[]) [.string (bN w)] [.c .bool] KK h':=by
  intro k w h' KK hi hw Q sb' T t i v W hkk;refine u (bN w) h' KK i ⟨i,?_⟩;have A:Upd (· =h.size+1) h' (h'.setIfInBounds (h.size+1) (lo .busy none)):=Upd.set _ _ rfl
  have Y:=hT (o:=lo .busy none) i;have zb:=A.size;refine aU ?_;generalize h'.setIfInBounds (h.size+1) (lo .busy none)=h2 at A Y zb;refine step k w h2 _ (d k _ _ hi Q (A.mono fun b y=>.inl (.inr (.inr y)))) (by have:=bp Y;omega) hw fun S hi3 m=>?_
  have L:=m.get Y fun e=>(hM _ e).2.2.2.2 rfl
  refine⟨L,?_⟩;have s:Upd (· =h.size+1) S (S.setIfInBounds (h.size+1) (lo .ready none)):=Upd.set _ _ rfl
  have D:=hT (o:=lo .ready none) L;have z3:=m.size;have F:=s.size;have E:sb≠h.size+1:=by omega
  have P:nb≠h.size+1:=by omega
  have n3:tb≠h.size+1:=by omega
  have n4:h.size≠h.size+1:=by omega
  simp only[Option.isNone_none,if_true];generalize S.setIfInBounds (h.size+1) (lo .ready none)=H at s D F;exact hkk H (d (k+1) _ _ hi3 (by omega) (s.mono fun b y=>.inl (.inr (.inr y)))) (by omega) (s.get (m.get (A.get sb' E) fun e=>(hM _ e).2.1 rfl) E) (s.get (m.get (A.get T P) fun e=>(hM _ e).2.2.1 rfl) P) (s.get (m.get (A.get t n4) fun e=>(hM _ e).2.2.2.1 rfl) n4) D (s.get (m.get (A.get W n3) fun e=>(hM _ e).1 rfl) n3)
 refine LoopP.ghost (fun(g:Nat×List UInt8) (_:Unit) h'=>Inv g.1 h'∧(mC 10 a).drop g.1=mC 10 g.2∧g.2.length≤1000000∧h'[tb]? =some (.cells #[.string (bN g.2)] eS (0,0))∧h'[sb]? =some (.cells #[.string ⟨#[10]⟩] eS (0,0))∧h'[nb]? =some (.cells #[.int .i64 0] Hm (0,0))∧h'[h.size]? =some (.deferred (some []))∧h'[h.size+1]? =some (lo .ready none)∧h.size≤h'.size) (fun g=>g.2.length) (0,a) ⟨i1,rfl,hx,t1,s1,E,l1,l2,k1.size⟩ ?_
 rintro I ⟨k,r⟩ ⟨⟩ h' ⟨hi,c,hr,j,B,z,t,i,Q⟩ hI;simp only at hi c hr j;refine⟨_,aI j,_,aI B,Ff ?_⟩;rw[show(bN r).data.toList=r from by simp]
 by_cases hm:(10:UInt8)∈r
 ·obtain⟨p,q,rfl,hp,n⟩:=C5 10 r hm
  rw[Dt hp]at c;have Z:(mC 10 a)[k]? =some p:=by
   have:=congrArg (fun l=>l[0]?) c
   simpa using this
  rw[n];refine aG (fun K=>absurd K (by omega)) fun _=>⟨_,aI j,0,aI z,?_⟩
  have J:(p++10::q).length=p.length+(q.length+1):=by simp
  have es:(bN (p++10::q)).size=p.length+(q.length+1):=by rw[ga,J]
  have e4:ac .i64 ((p.length:Int)+0)=(p.length:Int):=by rw[j2 (by omega)];omega
  have e5:ac .i64 ((p.length:Int)+((⟨#[10]⟩:ByteArray).size:Int))=((p.length+1:Nat):Int):=by rw[show((⟨#[10]⟩:ByteArray).size:Int)=1 from rfl,j2 (by omega)];omega
  rw[e4,es,aB,OX];refine⟨⟨by omega,by omega⟩,round k p h' _ hi Z Q B z t i _ j fun H C F U n5 d5 D O=>ag.2 ⟨_,aI O,_,aI U,?_⟩⟩
  rw[e5,es,aB];have er:(bN (p++10::q)).extract (p.length+1) (p.length+(q.length+1))=bN q:=by
   have:=OW (p++ [10]) q (p.length+(q.length+1)) (by simp<;>omega)
   rw[List.append_assoc]at this;simpa using this
  rw[er];refine⟨⟨by omega,by omega⟩,LR ⟨gI O (by simp),tO O fun h6 V f=>?_⟩⟩
  have E:sb≠tb:=fun e=>q1 e.symm
  have P:nb≠tb:=fun e=>q2 e.symm
  refine hI (k+1,q) () h6 ⟨d _ _ _ C F (f.mono fun b y=>.inl (.inl y)),?_,by simp only;omega,V,f.get U E,f.get n5 P,f.get d5 (show ¬h.size=tb by omega),f.get D (show ¬h.size+1=tb by omega),bR F f.size⟩ (by simp only;omega)
  have:=congrArg List.tail c;rw[List.tail_drop]at this;exact this
 ·rw[Ay hm]at c
  have Z:(mC 10 a)[k]? =some r:=by
   have:=congrArg (fun l=>l[0]?) c
   simpa using this
  have hl:(mC 10 a).length=k+1:=by
   have:=congrArg List.length c;simp only[List.length_drop,List.length_singleton]at this;omega
  have n:Lib.indexByte r 10<0:=by rw[Ia hm];decide
  refine aG (fun _=>⟨_,aI j,round k r h' _ hi Z Q B z t i _ j fun H C F U n5 d5 D O=>?_⟩) fun K=>absurd n K
  have s:Upd (· =h.size+1) H (H.setIfInBounds (h.size+1) (lo .exhausted none)):=Upd.set _ _ rfl
  refine⟨.ready,none,by decide,D,?_⟩
  refine fin _ ?_ (s.get d5 (show ¬h.size=h.size+1 by omega))
  rw[hl];exact d (k+1) _ _ C F (s.mono fun b y=>.inl (.inr (.inr y)))
end Go.Proofs
namespace Go.Proofs
open Go Go.Lift
theorem Sy:nA [48]=some 0:=by
 have:nA (gM 0)=some 0:=ym (by omega);rw[lV (by omega)]at this;exact this
theorem Sx:nA [49]=some 1:=by
 have:nA (gM 1)=some 1:=ym (by omega);rw[lV (by omega)]at this;exact this
abbrev CY:List UInt8:= [109,97,105,110]
theorem CX:sK (bN CY)=true:=by decide+kernel
theorem Lk:jL [54,49]=some [97]:=by decide+kernel
theorem PU:jL [51,49]=some [49]:=by decide+kernel
abbrev E9:List UInt8:= [99,114,101,97,116,101,32,109,97,105,110,32,48]
abbrev E7:List UInt8:= [112,117,116,32,109,97,105,110,32,54,49,32,51,49]
abbrev E8:List UInt8:= [103,101,116,32,49,32,54,49]
abbrev H5:List UInt8:= [111,112,101,110,32,114,97,100,105,120,32,48,32,48,32,48]
theorem MU:mC 32 H5= [[111,112,101,110],[114,97,100,105,120],[48],[48],[48]]:=by decide+kernel
theorem MW:mC 32 E9= [[99,114,101,97,116,101],CY,[48]]:=by decide+kernel
theorem MS:mC 32 E7= [[112,117,116],CY,[54,49],[51,49]]:=by decide+kernel
theorem MV:mC 32 E8= [[103,101,116],[49],[54,49]]:=by decide+kernel
theorem Iw:mC 10 (H5++10::(E9++10::(E7++10::E8)))= [H5,E9,E7,E8]:=by decide+kernel
theorem JJ:([98,105]:List UInt8).foldl (fun x p=>Lm p x) (([CY,[48]],true),Ea 0)=(([],true),S4 (S5 (Ea 0) (bN CY)) 0):=by
 simp[Lm,mK,jc,dq,Sy,CX,IntKind.wrap_u32]
theorem JH:([98,107,118]:List UInt8).foldl (fun x p=>Lm p x) (([CY,[54,49],[51,49]],true),Ea 4)=(([],true),Tn (S3 (S5 (Ea 4) (bN CY)) (bN [97])) (bN [49])):=by
 simp[Lm,mK,pC,dq,Lk,PU,CX]
theorem JI:([105,107]:List UInt8).foldl (fun x p=>Lm p x) (([[49],[54,49]],true),Ea 10)=(([],true),S3 (S4 (Ea 10) 1) (bN [97])):=by
 simp[Lm,pC,jc,dq,Lk,Sx,IntKind.wrap_u32]
theorem KA{k:Nat}{kd:Int}{w c:List UInt8}(b:formsL[k]? =some (kd,w,c)):∀j f,j<k→formsL[j]? =some f→f.2.1≠w:=by
 have key:∀i j:Fin 26,j.val<i.val→(formsL.getD j.val (0,[],[])).2.1≠(formsL.getD i.val (0,[],[])).2.1:=by decide+kernel
 intro j f e a;have d:k<26:=(bi.1 b).1;have:=key ⟨k,d⟩ ⟨j,by omega⟩ e
 rw[List.getD_eq_getElem?_getD,List.getD_eq_getElem?_getD,b,a]at this;exact this
end Go.Proofs
namespace Go.Proofs
open Go Go.Lift
theorem RH{W:Nat→Prop}{h:ad}{g sp j:Nat}{sm a:Option Addr}{last:Int}{s:VS}(v:VaultAt W h g s)(b:h[sp]? =some (.cells (Jx g (sm.map (·.block)) last a).toArray cO (0,0))) (e1:s.B= []) (e2:s.L= []) (hM:∀y,s.M y→y<h.size) (l:Laid h) (t:4≤h.size)
  (hd:h[j]? =some (.cells #[.pointer (some ⟨sp,0,none⟩)] fY (0,0))) {K:ByteArray→ad→Prop}
  (m:∀f d h',Upd No h f→Upd s.M f d→VaultAt W d g {s with B:= [(pn,0)]}→Upd No d h'→K ⟨#[111,107]⟩ h'):
  HC PG f7 [.pointer (some ⟨j,0,none⟩),.string (bN E9)] [.c .str] K h:=by
 refine Dp (by decide) MW (by decide) (by decide) (fun x hx=>by
   rcases au.1 hx with rfl|hx
   ·decide
   rcases au.1 hx with rfl|hx
   ·decide
   cases hx) (k:=0) rfl (KA rfl) (fun p c=>by
   rcases au.1 c with rfl|c
   ·exact .inl rfl
   rcases au.1 c with rfl|c
   ·exact .inr (.inr (.inr (.inr (.inl rfl))))
   cases c) JJ l t hd fun f ob k1 z w o=>?_
 refine Iq (v.upd0 k1) (k1.get0 b) rfl fun d i q=>?_
 rw[e1,e2]at*;refine⟨vc (i.get o fun e=>by have:=hM _ e;omega) 0,NL rfl fun n u=>m f d n k1 i q u⟩
end Go.Proofs
namespace Go.Proofs
open Go Go.Lift
theorem RF{W:Nat→Prop}{h:ad}{o sp s:Nat}{sm:Option Nat}{f:Option Addr}{last:Int}{gp gm tm bm nm:Nat}{kd:Int}{t:Tr}(v:VaultAt W h o ⟨gp,gm,tm,bm,nm,kd,⟨0,0,0⟩,t,[],1,[],[(pn,0)],[]⟩)(b:h[sp]? =some (.cells (Jx o sm last f).toArray cO (0,0))) (i:¬VS.M ⟨gp,gm,tm,bm,nm,kd,⟨0,0,0⟩,t,[],1,[],[(pn,0)],[]⟩ sp)
  (hM:∀y,VS.M ⟨gp,gm,tm,bm,nm,kd,⟨0,0,0⟩,t,[],1,[],[(pn,0)],[]⟩ y→y<h.size) (l:Laid h) (F:4≤h.size)
  (hd:h[s]? =some (.cells #[.pointer (some ⟨sp,0,none⟩)] fY (0,0))) {K:ByteArray→ad→Prop}
  (D:∀a,Upd (VS.M ⟨gp,gm,tm,bm,nm,kd,⟨0,0,0⟩,t,[],1,[],[(pn,0)],[]⟩) h a→Laid a)
  (C:∀g a h' m,Upd No h g→Upd (VS.M ⟨gp,gm,tm,bm,nm,kd,⟨0,0,0⟩,t,[],1,[],[(pn,0)],[]⟩) g a→VaultAt W a o ⟨gp,gm,tm,bm,nm,kd,⟨0,0,0⟩,t,[(1,[])],2,[(1,(m,[(⟨#[97]⟩,⟨#[49]⟩)]))],[(pn,1)],[]⟩→Upd No a h'→K (((⟨#[118,101,114,115,105,111,110,32]⟩:ByteArray)++bN (gM 1))++(⟨#[]⟩:ByteArray)) h'):
  HC PG f7 [.pointer (some ⟨s,0,none⟩),.string (bN E7)] [.c .str] K h:=by
 refine Dp (by decide) MS (by decide) (by decide) (fun x hx=>by
  rcases au.1 hx with rfl|hx
  ·decide
  rcases au.1 hx with rfl|hx
  ·decide
  rcases au.1 hx with rfl|hx
  ·decide
  cases hx) (k:=4) rfl (KA rfl) (fun p c=>by
  rcases au.1 c with rfl|c
  ·exact .inl rfl
  rcases au.1 c with rfl|c
  ·exact .inr (.inr (.inl rfl))
  rcases au.1 c with rfl|c
  ·exact .inr (.inr (.inr (.inl rfl)))
  cases c) JH l F hd fun g ob k1 G H w=>?_
 refine O4 (v.upd0 k1) (k1.get0 b) i rfl (hd:=0) rfl (.inl rfl) (N:=0) (by omega) (fun B d=>?_) (by decide) (by decide) (id:=1) (show(j3 [] 1 (nz [0])).1=(1,0) by decide) fun a B m d j q=>?_
 ·rcases d with⟨_,rfl⟩|⟨d,_⟩
  ·exact⟨ix,az _,fun _ h=>by cases h⟩
  ·exact absurd rfl d
 have A:B.2= []:=by
  rcases d with⟨_,rfl⟩|⟨d,_⟩
  ·rfl
  ·exact absurd rfl d
 rw[A]at q;have E:Laid a:=D a (k1.wide.tr j);exact⟨vc (j.get w fun e=>by have:=hM _ e;omega) 0,NK (n:=1) rfl (by omega) rfl E fun u z=>C g a u m k1 j q z⟩
theorem RG{W:Nat→Prop}{h:ad}{j sp i:Nat}{sm:Option Nat}{d:Option Addr}{last:Int}{gp gm tm bm nm:Nat}{kd:Int}{t g:Tr}(v:VaultAt W h j ⟨gp,gm,tm,bm,nm,kd,⟨0,0,0⟩,t,[(1,[])],2,[(1,(g,[(⟨#[97]⟩,⟨#[49]⟩)]))],[(pn,1)],[]⟩)(b:h[sp]? =some (.cells (Jx j sm last d).toArray cO (0,0))) (l:Laid h) (q:4≤h.size)
  (hd:h[i]? =some (.cells #[.pointer (some ⟨sp,0,none⟩)] fY (0,0))) {K:ByteArray→ad→Prop}
  (m:∀h',Upd No h h'→K (((⟨#[105,115,32]⟩:ByteArray)++bN (xm [49]))++(⟨#[]⟩:ByteArray)) h'):
  HC PG f7 [.pointer (some ⟨i,0,none⟩),.string (bN E8)] [.c .str] K h:=by
 refine Dp (by decide) MV (by decide) (by decide) (fun x hx=>by
  rcases au.1 hx with rfl|hx
  ·decide
  rcases au.1 hx with rfl|hx
  ·decide
  cases hx) (k:=10) rfl (KA rfl) (fun p e=>by
  rcases au.1 e with rfl|e
  ·exact .inr (.inr (.inr (.inr (.inl rfl))))
  rcases au.1 e with rfl|e
  ·exact .inr (.inr (.inl rfl))
  cases e) JI l q hd fun y ob k1 w u o=>?_
 have c:∀B,BaseOf ⟨gp,gm,tm,bm,nm,kd,⟨0,0,0⟩,t,[(1,[])],2,[(1,(g,[(⟨#[97]⟩,⟨#[49]⟩)]))],[(pn,1)],[]⟩ 1 B→B.2= [(⟨#[97]⟩,⟨#[49]⟩)]:=fun B a=>by
  rcases a with⟨a,_⟩|⟨_,a⟩
  ·cases a
  ·cases a;rfl
 refine O5 (v.upd0 k1) (k1.get0 b) rfl (.inr (show(1:Int)∈ids [(1,[])] by decide)) (fun B a=>?_) fun z B a f=>?_
 ·rw[c B a];exact⟨List.pairwise_singleton _ _,by simp⟩
 rw[c B a];exact⟨vc (f.get0 o) 0,L5 (v:=⟨#[49]⟩) rfl rfl rfl (by decide) fun n s=>m n ((k1.tr f).tr s)⟩
end Go.Proofs
namespace Go.Proofs
open Go Go.Lift
theorem Ix(x:ByteArray)(n:Nat):(x.extract 0 n).size≤n:=by rw[nr];omega
theorem L6{x:ByteArray}{h:ad}{K:ByteArray→ad→Prop}(a:∀y:ByteArray,y.size≤30→K y h):HC PG xq [.string x] [.c .str] K h:=by
 refine K0 x ?_;unfold DS;refine⟨⟨by split<;>omega,by split<;>omega⟩,LR (a _ (bR (Ix _ _) ?_))⟩
 split<;>omega
theorem Ou{x y:Option (List UInt8)}(h:x=y):((Gi x).1.toList==(Gi y).1.toList)=true∧((Gi x).2==(Gi y).2)=true:=by subst h;exact⟨by simp,by simp⟩
theorem GG(k:∀{h:ad} {K:Bool→ad→Prop},Laid h→4≤h.size→(∀h',Upd No h h'→K true h')→HC PG ri [] [.c .bool] K h){w s:ByteArray}{n:Nat}(c:n<18446744073709551616){h:ad}(l:Laid h)(i:4≤h.size){K:Bool→ad→Prop}(u:∀h',Upd No h h'→K true h'):
  HC PG pu [.string w,.string s,.int .u64 (n:Int)] [.c .bool] K h:=by
 refine B0 w s (n:Int) ?_;unfold ur;refine k l i fun I k1=>ag.2 ⟨⟨by split<;>omega,by split<;>omega⟩,LR ?_⟩
 have p:(w.extract 0 ((if 60<(w.size:Int)then 60 else(w.size:Int)).toNat)).size≤60:=bR (Ix _ _) (by split<;>omega)
 generalize w.extract 0 ((if 60<(w.size:Int)then 60 else(w.size:Int)).toNat)=x at p
 refine L6 fun y E=>?_
 have j:=l.upd0 k1;refine Cv (x:=x) (by omega) fun L b=>HK (x:=x) (by omega) fun C a=>qd (x:=x) (by omega) ((j.upd0 b).upd0 a) fun i f=>Ga (x:=x) (by omega) ?_
 refine Ks (x:=y) (by omega) fun H g=>?_
 have A:(bN (xm y.data.toList)).data.toList=xm y.data.toList:=by simp
 have G:(bN (xm y.data.toList)).size≤1000:=by
  have:=rY y;rw[ga,xm];split
  ·simp
  ·rw[uS];omega
 refine Cv (by omega) fun D d=>Mj n c ?_
 rw[A,L2];have ed:(bN (gM n)).data.toList=gM n:=by simp
 have hd:(bN (gM n)).size≤1000:=by have:=O7 c;rw[ga];omega
 have t:=(((((j.upd0 b).upd0 a).upd0 f).upd0 g).upd0 d);refine qd (by omega) t fun J q=>?_
 rw[ed,ym c];obtain⟨b1,b2⟩:=Ou (x:=jL x.data.toList) rfl;have c1:((Gj (nA x.data.toList)).1==(Gj (nA x.data.toList)).1)=true:=by simp
 have v:((Gj (nA x.data.toList)).2==(Gj (nA x.data.toList)).2)=true:=by simp
 rw[b1,b2,c1,v];have m:((Gi (some y.data.toList)).1.toList==y.toList)=true:=by
  show((bN y.data.toList).toList==y.toList)=true
  rw[N1];simp
 rw[m];refine ay.2 (ay.2 (ay.2 (ay.2 (ay.2 (ay.2 (Ks (x:=y) (by omega) fun F z=>Mi (x:=y) (by omega) fun B o=>?_))))))
 refine CondP.intro (fun _=>CondP.intro (fun _=>u B ?_) fun e=>?_) fun e=>?_
 ·exact((((((((k1.tr b).tr a).tr f).tr g).tr d).tr q).tr z).tr o)
 ·simp at e
 ·simp at e
end Go.Proofs
