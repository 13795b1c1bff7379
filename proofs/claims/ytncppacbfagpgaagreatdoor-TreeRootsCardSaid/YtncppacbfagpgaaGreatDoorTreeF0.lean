/- A part of the proof that the named laws of this program answer true, whatever the input. -/
import Derived.Test.YtncppacbfagpgaaGreatDoorTreeF
set_option maxRecDepth 100000
set_option linter.unusedVariables false
open BitVec renaming ofInt→aj
open Int renaming tdiv→lF
namespace Go.Proofs
open Go.Lift
def tX(x0:Int)(x1:Int×Int×Int)(x2:SliceV)(K:(Bool)→ad→Prop)(h0:ad):Prop:=
 At (hnew h0 (yE x1) cC) (fun h1=>
 HC PG uH [] [.c .bool] (fun(e2:Bool) h3=>
 CondP (!e2) (
 K false h3) (
 ∃v4,ae h3 h0 0 v4∧
 ∃v5,ae h3 h0 1 v5∧
 ∃v6,ae h3 h0 2 v6∧
 HC PG tm [.int .i64 0,pW v4 v5 v6,.slice x2.a x2.len x2.cap] Nv (fun(e7:(T6)×(T5)) h8=>
 At (hnew h8 ml aI) (fun h9=>
 At (hnew h9 Mw iq) (fun h10=>
 (cJ h10 h8 (gB e7.1) (fun h11=>
 (cJ h11 h9 (Ms e7.2) (fun h12=>
 ∃v13,ae h12 h0 0 v13∧
 ∃v14,ae h12 h0 1 v14∧
 ∃v15,ae h12 h0 2 v15∧
 HC PG tm [.int .i64 1,pW v13 v14 v15,.slice x2.a x2.len x2.cap] Nv (fun(e16:(T6)×(T5)) h17=>
 At (hnew h17 ml aI) (fun h18=>
 At (hnew h18 Mw iq) (fun h19=>
 (cJ h19 h17 (gB e16.1) (fun h20=>
 (cJ h20 h18 (Ms e16.2) (fun h21=>
 Join (fun(t530:Addr×Addr) h531=>
 At (hnew h531 ml aI) (fun h532=>
 ∃v533,ae h532 h0 0 v533∧
 ∃v534,ae h532 h0 1 v534∧
 ∃v535,ae h532 h0 2 v535∧
 HC PG mS [.int .i64 x0,pW v533 v534 v535] yX (fun(e536:(T6)×Int) h537=>
 nv h537 ml aI (gB e536.1) (fun h539=>
 ∃v540,aM h539 h531 0 v540∧
 ∃v541,ae h539 h531 1 v541∧
 ∃v542,ae h539 h531 2 v542∧
 ∃v543,ae h539 h531 3 v543∧
 ∃v544,au h539 h531 4 v544∧
 ∃v545,au h539 h531 5 v545∧
 HC PG ij [oe v540 v541 v542 v543 v544 v545,.pointer none,o9 (⟨#[107]⟩:ByteArray) (⟨#[]⟩:ByteArray)] yX (fun(e546:(T6)×Int) h547=>
 nv h547 ml aI (gB e546.1) (fun h549=>
 ∃v550,cf h549 t530.1 0 (.int .i64 v550)∧
 ∃v551,cf h549 t530.1 1 (.int .u64 v551)∧
 ∃v552,cf h549 t530.1 2 (.int .u64 v552)∧
 ∃v553,cf h549 t530.1 3 (.int .u64 v553)∧
 ∃v554,cf h549 t530.1 4 (.pointer v554)∧
 ∃v555,cf h549 t530.1 5 (.pointer v555)∧
 ∃v556,aM h549 h9 0 v556∧
 ∃v557,ae h549 h9 1 v557∧
 ∃v558,ae h549 h9 2 v558∧
 ∃v559,ae h549 h9 3 v559∧
 ∃v560:SliceV,eP h549 h9 4 v560∧
 HC PG jX [oe v550 v551 v552 v553 v554 v555,PX v556 v557 v558 v559 v560] [.c .bool] (fun(e561:Bool) h562=>
 CondP e561 (
 ∃v563,cf h562 t530.2 0 (.int .i64 v563)∧
 ∃v564,cf h562 t530.2 1 (.int .u64 v564)∧
 ∃v565,cf h562 t530.2 2 (.int .u64 v565)∧
 ∃v566,cf h562 t530.2 3 (.int .u64 v566)∧
 ∃v567,cf h562 t530.2 4 (.pointer v567)∧
 ∃v568,cf h562 t530.2 5 (.pointer v568)∧
 ∃v569,aM h562 h18 0 v569∧
 ∃v570,ae h562 h18 1 v570∧
 ∃v571,ae h562 h18 2 v571∧
 ∃v572,ae h562 h18 3 v572∧
 ∃v573:SliceV,eP h562 h18 4 v573∧
 HC PG jX [oe v563 v564 v565 v566 v567 v568,PX v569 v570 v571 v572 v573] [.c .bool] (fun(e574:Bool) h575=>
 CondP e574 (
 ∃v576,aM h575 h8 0 v576∧
 ∃v577,ae h575 h8 1 v577∧
 ∃v578,ae h575 h8 2 v578∧
 ∃v579,ae h575 h8 3 v579∧
 ∃v580,au h575 h8 4 v580∧
 ∃v581,au h575 h8 5 v581∧
 ∃v582,cf h575 t530.1 0 (.int .i64 v582)∧
 ∃v583,cf h575 t530.1 1 (.int .u64 v583)∧
 ∃v584,cf h575 t530.1 2 (.int .u64 v584)∧
 ∃v585,cf h575 t530.1 3 (.int .u64 v585)∧
 ∃v586,cf h575 t530.1 4 (.pointer v586)∧
 ∃v587,cf h575 t530.1 5 (.pointer v587)∧
 HC PG sX [oe v576 v577 v578 v579 v580 v581,oe v582 v583 v584 v585 v586 v587] [.c .bool] (fun(e588:Bool) h589=>
 CondP e588 (
 ∃v590,aM h589 h17 0 v590∧
 ∃v591,ae h589 h17 1 v591∧
 ∃v592,ae h589 h17 2 v592∧
 ∃v593,ae h589 h17 3 v593∧
 ∃v594,au h589 h17 4 v594∧
 ∃v595,au h589 h17 5 v595∧
 ∃v596,cf h589 t530.2 0 (.int .i64 v596)∧
 ∃v597,cf h589 t530.2 1 (.int .u64 v597)∧
 ∃v598,cf h589 t530.2 2 (.int .u64 v598)∧
 ∃v599,cf h589 t530.2 3 (.int .u64 v599)∧
 ∃v600,cf h589 t530.2 4 (.pointer v600)∧
 ∃v601,cf h589 t530.2 5 (.pointer v601)∧
 HC PG sX [oe v590 v591 v592 v593 v594 v595,oe v596 v597 v598 v599 v600 v601] [.c .bool] (fun(e602:Bool) h603=>
 CondP e602 (
 ∃v604,ae h603 h0 0 v604∧
 ∃v605,ae h603 h0 1 v605∧
 ∃v606,ae h603 h0 2 v606∧
 ∃v607,ae h603 h0 0 v607∧
 ∃v608,ae h603 h0 1 v608∧
 ∃v609,ae h603 h0 2 v609∧
 HC PG cY [pW v604 v605 v606,.pointer none] gV (fun(e610:T6) h611=>
 ((ae h611 h0 0 v607∧ae h611 h0 1 v608∧ae h611 h0 2 v609)∧
 HC PG r6 [pW v607 v608 v609] BS (fun(e612:Int×Int×Int) h613=>
 HC PG jX [IB e610,.agg #[.int .i64 0,.int .u64 e612.1,.int .u64 e612.2.1,.int .u64 e612.2.2,.slice none 0 0]] [.c .bool] (fun(e614:Bool) h615=>
 CondP e614 (
 HC PG bq [.pointer none] gV (fun(e616:T6) h617=>
 HC PG jX [IB e616,.agg #[.int .i64 1,.int .u64 0,.int .u64 0,.int .u64 0,.slice none 0 0]] [.c .bool] (fun(e618:Bool) h619=>
 CondP e618 (
 ∃v620,aM h619 h531 0 v620∧
 ∃v621,ae h619 h531 1 v621∧
 ∃v622,ae h619 h531 2 v622∧
 ∃v623,ae h619 h531 3 v623∧
 ∃v624,au h619 h531 4 v624∧
 ∃v625,au h619 h531 5 v625∧
 HC PG jX [oe v620 v621 v622 v623 v624 v625,zg2] [.c .bool] (fun(e626:Bool) h627=>
 CondP e626 (
 CondP (e546.2==(0:Int)) (
 ∃v628,aM h627 h547 0 v628∧
 ∃v629,ae h627 h547 1 v629∧
 ∃v630,ae h627 h547 2 v630∧
 ∃v631,ae h627 h547 3 v631∧
 ∃v632,au h627 h547 4 v632∧
 ∃v633,au h627 h547 5 v633∧
 At (hnew h627 (jx (⟨#[107]⟩:ByteArray) (⟨#[]⟩:ByteArray)) bS) (fun h634=>
 ((aM h634 h547 0 v628∧ae h634 h547 1 v629∧ae h634 h547 2 v630∧ae h634 h547 3 v631∧au h634 h547 4 v632∧au h634 h547 5 v633)∧
 HC PG jX [oe v628 v629 v630 v631 v632 v633,.agg #[.int .i64 0,.int .u64 0,.int .u64 0,.int .u64 0,.slice (some (az h627)) 1 1]] [.c .bool] (fun(e635:Bool) h636=>
 CondP e635 (
 CondP (x0==(0:Int)) (
 CondP ((e536.2==(0:Int))==true) (
 CondP (e536.2==(0:Int)) (
 K true h636) (
 K (e536.2==(11:Int)) h636)) (
 K false h636)) (
 CondP ((e536.2==(0:Int))==(x0==(1:Int))) (
 CondP (e536.2==(0:Int)) (
 K true h636) (
 K (e536.2==(11:Int)) h636)) (
 K false h636))) (
 K false h636)) h634))) (
 K false h627)) (
 K false h627)) h619) (
 K false h619)) h617) h615) (
 K false h615)) h613) h611)) h603) (
 K false h603)) h589) (
 K false h589)) h575) (
 K false h575)) h562) (
 K false h562)) h549)) h539)) h532)) (fun J286=>
 ∃v287,ae h21 h0 0 v287∧
 ∃v288,ae h21 h0 1 v288∧
 ∃v289,ae h21 h0 2 v289∧
 ∃v290,aM h21 h8 0 v290∧
 ∃v291,ae h21 h8 1 v291∧
 ∃v292,ae h21 h8 2 v292∧
 ∃v293,ae h21 h8 3 v293∧
 ∃v294,au h21 h8 4 v294∧
 ∃v295,au h21 h8 5 v295∧
 ∃v296,aM h21 h17 0 v296∧
 ∃v297,ae h21 h17 1 v297∧
 ∃v298,ae h21 h17 2 v298∧
 ∃v299,ae h21 h17 3 v299∧
 ∃v300,au h21 h17 4 v300∧
 ∃v301,au h21 h17 5 v301∧
 ((HC PG cR [oe v290 v291 v292 v293 v294 v295] [.c .ptr] (fun(e302:Option Addr) h303=>
 ((aM h303 h17 0 v296∧ae h303 h17 1 v297∧ae h303 h17 2 v298∧ae h303 h17 3 v299∧au h303 h17 4 v300∧au h303 h17 5 v301)∧
 ((ae h303 h0 0 v287∧ae h303 h0 1 v288∧ae h303 h0 2 v289)∧
 ((HC PG cY [pW v287 v288 v289,.pointer e302] gV (fun(e304:T6) h305=>
 ((aM h305 h17 0 v296∧ae h305 h17 1 v297∧ae h305 h17 2 v298∧ae h305 h17 3 v299∧au h305 h17 4 v300∧au h305 h17 5 v301)∧
 ((HC PG bR [oe v296 v297 v298 v299 v300 v301] [.c .ptr] (fun(e306:Option Addr) h307=>
 ((HC PG bq [.pointer e306] gV (fun(e308:T6) h309=>
 ((At (hnew h309 ml aI) (fun h310=>
 At (hnew h310 ml aI) (fun h311=>
 (cJ h311 h309 (gB e304) (fun h312=>
 (cJ h312 h310 (gB e308) (fun h313=>
 J286 (az h309,az h310) h313)))))))∧
 At (hnew h309 ml aI) (fun h314=>
 nv h314 ml aI (gB e304) (fun h316=>
 (cJ h316 h309 (gB e308) (fun h317=>
 J286 (az h314,az h309) h317)))))) h307)∧
 ((At (hnew h307 ml aI) (fun h318=>
 ((HC PG bq [.pointer e306] gV (fun(e319:T6) h320=>
 At (hnew h320 ml aI) (fun h321=>
 (cJ h321 h307 (gB e304) (fun h322=>
 (cJ h322 h320 (gB e319) (fun h323=>
 J286 (az h307,az h320) h323)))))) h318)∧
 At (hnew h318 ml aI) (fun h324=>
 HC PG bq [.pointer e306] gV (fun(e325:T6) h326=>
 (cJ h326 h307 (gB e304) (fun h327=>
 (cJ h327 h318 (gB e325) (fun h328=>
 J286 (az h307,az h318) h328))))) h324))))∧
 At (hnew h307 ml aI) (fun h329=>
 ((HC PG bq [.pointer e306] gV (fun(e330:T6) h331=>
 nv h331 ml aI (gB e304) (fun h333=>
 (cJ h333 h307 (gB e330) (fun h334=>
 J286 (az h331,az h307) h334)))) h329)∧
 At (hnew h329 ml aI) (fun h335=>
 HC PG bq [.pointer e306] gV (fun(e336:T6) h337=>
 (cJ h337 h329 (gB e304) (fun h338=>
 (cJ h338 h307 (gB e336) (fun h339=>
 J286 (az h329,az h307) h339))))) h335)))))) h305)∧
 ((At (hnew h305 ml aI) (fun h340=>
 ((aM h340 h17 0 v296∧ae h340 h17 1 v297∧ae h340 h17 2 v298∧ae h340 h17 3 v299∧au h340 h17 4 v300∧au h340 h17 5 v301)∧
 ((HC PG bR [oe v296 v297 v298 v299 v300 v301] [.c .ptr] (fun(e341:Option Addr) h342=>
 ((HC PG bq [.pointer e341] gV (fun(e343:T6) h344=>
 At (hnew h344 ml aI) (fun h345=>
 (cJ h345 h305 (gB e304) (fun h346=>
 (cJ h346 h344 (gB e343) (fun h347=>
 J286 (az h305,az h344) h347)))))) h342)∧
 At (hnew h342 ml aI) (fun h348=>
 HC PG bq [.pointer e341] gV (fun(e349:T6) h350=>
 (cJ h350 h305 (gB e304) (fun h351=>
 (cJ h351 h342 (gB e349) (fun h352=>
 J286 (az h305,az h342) h352))))) h348))) h340)∧
 At (hnew h340 ml aI) (fun h353=>
 ((aM h353 h17 0 v296∧ae h353 h17 1 v297∧ae h353 h17 2 v298∧ae h353 h17 3 v299∧au h353 h17 4 v300∧au h353 h17 5 v301)∧
 HC PG bR [oe v296 v297 v298 v299 v300 v301] [.c .ptr] (fun(e354:Option Addr) h355=>
 HC PG bq [.pointer e354] gV (fun(e356:T6) h357=>
 (cJ h357 h305 (gB e304) (fun h358=>
 (cJ h358 h340 (gB e356) (fun h359=>
 J286 (az h305,az h340) h359))))) h355) h353))))))∧
 At (hnew h305 ml aI) (fun h360=>
 ((aM h360 h17 0 v296∧ae h360 h17 1 v297∧ae h360 h17 2 v298∧ae h360 h17 3 v299∧au h360 h17 4 v300∧au h360 h17 5 v301)∧
 ((HC PG bR [oe v296 v297 v298 v299 v300 v301] [.c .ptr] (fun(e361:Option Addr) h362=>
 ((HC PG bq [.pointer e361] gV (fun(e363:T6) h364=>
 nv h364 ml aI (gB e304) (fun h366=>
 (cJ h366 h305 (gB e363) (fun h367=>
 J286 (az h364,az h305) h367)))) h362)∧
 At (hnew h362 ml aI) (fun h368=>
 HC PG bq [.pointer e361] gV (fun(e369:T6) h370=>
 (cJ h370 h362 (gB e304) (fun h371=>
 (cJ h371 h305 (gB e369) (fun h372=>
 J286 (az h362,az h305) h372))))) h368))) h360)∧
 At (hnew h360 ml aI) (fun h373=>
 ((aM h373 h17 0 v296∧ae h373 h17 1 v297∧ae h373 h17 2 v298∧ae h373 h17 3 v299∧au h373 h17 4 v300∧au h373 h17 5 v301)∧
 HC PG bR [oe v296 v297 v298 v299 v300 v301] [.c .ptr] (fun(e374:Option Addr) h375=>
 HC PG bq [.pointer e374] gV (fun(e376:T6) h377=>
 (cJ h377 h360 (gB e304) (fun h378=>
 (cJ h378 h305 (gB e376) (fun h379=>
 J286 (az h360,az h305) h379))))) h375) h373))))))))) h303)∧
 ((At (hnew h303 ml aI) (fun h380=>
 ((aM h380 h17 0 v296∧ae h380 h17 1 v297∧ae h380 h17 2 v298∧ae h380 h17 3 v299∧au h380 h17 4 v300∧au h380 h17 5 v301)∧
 ((ae h380 h0 0 v287∧ae h380 h0 1 v288∧ae h380 h0 2 v289)∧
 ((HC PG cY [pW v287 v288 v289,.pointer e302] gV (fun(e381:T6) h382=>
 ((aM h382 h17 0 v296∧ae h382 h17 1 v297∧ae h382 h17 2 v298∧ae h382 h17 3 v299∧au h382 h17 4 v300∧au h382 h17 5 v301)∧
 ((HC PG bR [oe v296 v297 v298 v299 v300 v301] [.c .ptr] (fun(e383:Option Addr) h384=>
 ((HC PG bq [.pointer e383] gV (fun(e385:T6) h386=>
 At (hnew h386 ml aI) (fun h387=>
 (cJ h387 h303 (gB e381) (fun h388=>
 (cJ h388 h386 (gB e385) (fun h389=>
 J286 (az h303,az h386) h389)))))) h384)∧
 At (hnew h384 ml aI) (fun h390=>
 HC PG bq [.pointer e383] gV (fun(e391:T6) h392=>
 (cJ h392 h303 (gB e381) (fun h393=>
 (cJ h393 h384 (gB e391) (fun h394=>
 J286 (az h303,az h384) h394))))) h390))) h382)∧
 At (hnew h382 ml aI) (fun h395=>
 ((aM h395 h17 0 v296∧ae h395 h17 1 v297∧ae h395 h17 2 v298∧ae h395 h17 3 v299∧au h395 h17 4 v300∧au h395 h17 5 v301)∧
 HC PG bR [oe v296 v297 v298 v299 v300 v301] [.c .ptr] (fun(e396:Option Addr) h397=>
 HC PG bq [.pointer e396] gV (fun(e398:T6) h399=>
 (cJ h399 h303 (gB e381) (fun h400=>
 (cJ h400 h382 (gB e398) (fun h401=>
 J286 (az h303,az h382) h401))))) h397) h395))))) h380)∧
 At (hnew h380 ml aI) (fun h402=>
 ((aM h402 h17 0 v296∧ae h402 h17 1 v297∧ae h402 h17 2 v298∧ae h402 h17 3 v299∧au h402 h17 4 v300∧au h402 h17 5 v301)∧
 ((ae h402 h0 0 v287∧ae h402 h0 1 v288∧ae h402 h0 2 v289)∧
 HC PG cY [pW v287 v288 v289,.pointer e302] gV (fun(e403:T6) h404=>
 ((aM h404 h17 0 v296∧ae h404 h17 1 v297∧ae h404 h17 2 v298∧ae h404 h17 3 v299∧au h404 h17 4 v300∧au h404 h17 5 v301)∧
 HC PG bR [oe v296 v297 v298 v299 v300 v301] [.c .ptr] (fun(e405:Option Addr) h406=>
 HC PG bq [.pointer e405] gV (fun(e407:T6) h408=>
 (cJ h408 h303 (gB e403) (fun h409=>
 (cJ h409 h380 (gB e407) (fun h410=>
 J286 (az h303,az h380) h410))))) h406) h404)) h402))))))))∧
 At (hnew h303 ml aI) (fun h411=>
 ((aM h411 h17 0 v296∧ae h411 h17 1 v297∧ae h411 h17 2 v298∧ae h411 h17 3 v299∧au h411 h17 4 v300∧au h411 h17 5 v301)∧
 ((ae h411 h0 0 v287∧ae h411 h0 1 v288∧ae h411 h0 2 v289)∧
 ((HC PG cY [pW v287 v288 v289,.pointer e302] gV (fun(e412:T6) h413=>
 ((aM h413 h17 0 v296∧ae h413 h17 1 v297∧ae h413 h17 2 v298∧ae h413 h17 3 v299∧au h413 h17 4 v300∧au h413 h17 5 v301)∧
 ((HC PG bR [oe v296 v297 v298 v299 v300 v301] [.c .ptr] (fun(e414:Option Addr) h415=>
 ((HC PG bq [.pointer e414] gV (fun(e416:T6) h417=>
 nv h417 ml aI (gB e412) (fun h419=>
 (cJ h419 h303 (gB e416) (fun h420=>
 J286 (az h417,az h303) h420)))) h415)∧
 At (hnew h415 ml aI) (fun h421=>
 HC PG bq [.pointer e414] gV (fun(e422:T6) h423=>
 (cJ h423 h415 (gB e412) (fun h424=>
 (cJ h424 h303 (gB e422) (fun h425=>
 J286 (az h415,az h303) h425))))) h421))) h413)∧
 At (hnew h413 ml aI) (fun h426=>
 ((aM h426 h17 0 v296∧ae h426 h17 1 v297∧ae h426 h17 2 v298∧ae h426 h17 3 v299∧au h426 h17 4 v300∧au h426 h17 5 v301)∧
 HC PG bR [oe v296 v297 v298 v299 v300 v301] [.c .ptr] (fun(e427:Option Addr) h428=>
 HC PG bq [.pointer e427] gV (fun(e429:T6) h430=>
 (cJ h430 h413 (gB e412) (fun h431=>
 (cJ h431 h303 (gB e429) (fun h432=>
 J286 (az h413,az h303) h432))))) h428) h426))))) h411)∧
 At (hnew h411 ml aI) (fun h433=>
 ((aM h433 h17 0 v296∧ae h433 h17 1 v297∧ae h433 h17 2 v298∧ae h433 h17 3 v299∧au h433 h17 4 v300∧au h433 h17 5 v301)∧
 ((ae h433 h0 0 v287∧ae h433 h0 1 v288∧ae h433 h0 2 v289)∧
 HC PG cY [pW v287 v288 v289,.pointer e302] gV (fun(e434:T6) h435=>
 ((aM h435 h17 0 v296∧ae h435 h17 1 v297∧ae h435 h17 2 v298∧ae h435 h17 3 v299∧au h435 h17 4 v300∧au h435 h17 5 v301)∧
 HC PG bR [oe v296 v297 v298 v299 v300 v301] [.c .ptr] (fun(e436:Option Addr) h437=>
 HC PG bq [.pointer e436] gV (fun(e438:T6) h439=>
 (cJ h439 h411 (gB e434) (fun h440=>
 (cJ h440 h303 (gB e438) (fun h441=>
 J286 (az h411,az h303) h441))))) h437) h435)) h433)))))))))))) h21)∧
 ((At (hnew h21 ml aI) (fun h442=>
 ((aM h442 h17 0 v296∧ae h442 h17 1 v297∧ae h442 h17 2 v298∧ae h442 h17 3 v299∧au h442 h17 4 v300∧au h442 h17 5 v301)∧
 ((aM h442 h8 0 v290∧ae h442 h8 1 v291∧ae h442 h8 2 v292∧ae h442 h8 3 v293∧au h442 h8 4 v294∧au h442 h8 5 v295)∧
 ((ae h442 h0 0 v287∧ae h442 h0 1 v288∧ae h442 h0 2 v289)∧
 ((HC PG cR [oe v290 v291 v292 v293 v294 v295] [.c .ptr] (fun(e443:Option Addr) h444=>
 ((aM h444 h17 0 v296∧ae h444 h17 1 v297∧ae h444 h17 2 v298∧ae h444 h17 3 v299∧au h444 h17 4 v300∧au h444 h17 5 v301)∧
 ((ae h444 h0 0 v287∧ae h444 h0 1 v288∧ae h444 h0 2 v289)∧
 ((HC PG cY [pW v287 v288 v289,.pointer e443] gV (fun(e445:T6) h446=>
 ((aM h446 h17 0 v296∧ae h446 h17 1 v297∧ae h446 h17 2 v298∧ae h446 h17 3 v299∧au h446 h17 4 v300∧au h446 h17 5 v301)∧
 ((HC PG bR [oe v296 v297 v298 v299 v300 v301] [.c .ptr] (fun(e447:Option Addr) h448=>
 ((HC PG bq [.pointer e447] gV (fun(e449:T6) h450=>
 At (hnew h450 ml aI) (fun h451=>
 (cJ h451 h21 (gB e445) (fun h452=>
 (cJ h452 h450 (gB e449) (fun h453=>
 J286 (az h21,az h450) h453)))))) h448)∧
 At (hnew h448 ml aI) (fun h454=>
 HC PG bq [.pointer e447] gV (fun(e455:T6) h456=>
 (cJ h456 h21 (gB e445) (fun h457=>
 (cJ h457 h448 (gB e455) (fun h458=>
 J286 (az h21,az h448) h458))))) h454))) h446)∧
 At (hnew h446 ml aI) (fun h459=>
 ((aM h459 h17 0 v296∧ae h459 h17 1 v297∧ae h459 h17 2 v298∧ae h459 h17 3 v299∧au h459 h17 4 v300∧au h459 h17 5 v301)∧
 HC PG bR [oe v296 v297 v298 v299 v300 v301] [.c .ptr] (fun(e460:Option Addr) h461=>
 HC PG bq [.pointer e460] gV (fun(e462:T6) h463=>
 (cJ h463 h21 (gB e445) (fun h464=>
 (cJ h464 h446 (gB e462) (fun h465=>
 J286 (az h21,az h446) h465))))) h461) h459))))) h444)∧
 At (hnew h444 ml aI) (fun h466=>
 ((aM h466 h17 0 v296∧ae h466 h17 1 v297∧ae h466 h17 2 v298∧ae h466 h17 3 v299∧au h466 h17 4 v300∧au h466 h17 5 v301)∧
 ((ae h466 h0 0 v287∧ae h466 h0 1 v288∧ae h466 h0 2 v289)∧
 HC PG cY [pW v287 v288 v289,.pointer e443] gV (fun(e467:T6) h468=>
 ((aM h468 h17 0 v296∧ae h468 h17 1 v297∧ae h468 h17 2 v298∧ae h468 h17 3 v299∧au h468 h17 4 v300∧au h468 h17 5 v301)∧
 HC PG bR [oe v296 v297 v298 v299 v300 v301] [.c .ptr] (fun(e469:Option Addr) h470=>
 HC PG bq [.pointer e469] gV (fun(e471:T6) h472=>
 (cJ h472 h21 (gB e467) (fun h473=>
 (cJ h473 h444 (gB e471) (fun h474=>
 J286 (az h21,az h444) h474))))) h470) h468)) h466))))))) h442)∧
 At (hnew h442 ml aI) (fun h475=>
 ((aM h475 h17 0 v296∧ae h475 h17 1 v297∧ae h475 h17 2 v298∧ae h475 h17 3 v299∧au h475 h17 4 v300∧au h475 h17 5 v301)∧
 ((aM h475 h8 0 v290∧ae h475 h8 1 v291∧ae h475 h8 2 v292∧ae h475 h8 3 v293∧au h475 h8 4 v294∧au h475 h8 5 v295)∧
 ((ae h475 h0 0 v287∧ae h475 h0 1 v288∧ae h475 h0 2 v289)∧
 HC PG cR [oe v290 v291 v292 v293 v294 v295] [.c .ptr] (fun(e476:Option Addr) h477=>
 ((aM h477 h17 0 v296∧ae h477 h17 1 v297∧ae h477 h17 2 v298∧ae h477 h17 3 v299∧au h477 h17 4 v300∧au h477 h17 5 v301)∧
 ((ae h477 h0 0 v287∧ae h477 h0 1 v288∧ae h477 h0 2 v289)∧
 HC PG cY [pW v287 v288 v289,.pointer e476] gV (fun(e478:T6) h479=>
 ((aM h479 h17 0 v296∧ae h479 h17 1 v297∧ae h479 h17 2 v298∧ae h479 h17 3 v299∧au h479 h17 4 v300∧au h479 h17 5 v301)∧
 HC PG bR [oe v296 v297 v298 v299 v300 v301] [.c .ptr] (fun(e480:Option Addr) h481=>
 HC PG bq [.pointer e480] gV (fun(e482:T6) h483=>
 (cJ h483 h21 (gB e478) (fun h484=>
 (cJ h484 h442 (gB e482) (fun h485=>
 J286 (az h21,az h442) h485))))) h481) h479)) h477))) h475))))))))))∧
 At (hnew h21 ml aI) (fun h486=>
 ((aM h486 h17 0 v296∧ae h486 h17 1 v297∧ae h486 h17 2 v298∧ae h486 h17 3 v299∧au h486 h17 4 v300∧au h486 h17 5 v301)∧
 ((aM h486 h8 0 v290∧ae h486 h8 1 v291∧ae h486 h8 2 v292∧ae h486 h8 3 v293∧au h486 h8 4 v294∧au h486 h8 5 v295)∧
 ((ae h486 h0 0 v287∧ae h486 h0 1 v288∧ae h486 h0 2 v289)∧
 ((HC PG cR [oe v290 v291 v292 v293 v294 v295] [.c .ptr] (fun(e487:Option Addr) h488=>
 ((aM h488 h17 0 v296∧ae h488 h17 1 v297∧ae h488 h17 2 v298∧ae h488 h17 3 v299∧au h488 h17 4 v300∧au h488 h17 5 v301)∧
 ((ae h488 h0 0 v287∧ae h488 h0 1 v288∧ae h488 h0 2 v289)∧
 ((HC PG cY [pW v287 v288 v289,.pointer e487] gV (fun(e489:T6) h490=>
 ((aM h490 h17 0 v296∧ae h490 h17 1 v297∧ae h490 h17 2 v298∧ae h490 h17 3 v299∧au h490 h17 4 v300∧au h490 h17 5 v301)∧
 ((HC PG bR [oe v296 v297 v298 v299 v300 v301] [.c .ptr] (fun(e491:Option Addr) h492=>
 ((HC PG bq [.pointer e491] gV (fun(e493:T6) h494=>
 nv h494 ml aI (gB e489) (fun h496=>
 (cJ h496 h21 (gB e493) (fun h497=>
 J286 (az h494,az h21) h497)))) h492)∧
 At (hnew h492 ml aI) (fun h498=>
 HC PG bq [.pointer e491] gV (fun(e499:T6) h500=>
 (cJ h500 h492 (gB e489) (fun h501=>
 (cJ h501 h21 (gB e499) (fun h502=>
 J286 (az h492,az h21) h502))))) h498))) h490)∧
 At (hnew h490 ml aI) (fun h503=>
 ((aM h503 h17 0 v296∧ae h503 h17 1 v297∧ae h503 h17 2 v298∧ae h503 h17 3 v299∧au h503 h17 4 v300∧au h503 h17 5 v301)∧
 HC PG bR [oe v296 v297 v298 v299 v300 v301] [.c .ptr] (fun(e504:Option Addr) h505=>
 HC PG bq [.pointer e504] gV (fun(e506:T6) h507=>
 (cJ h507 h490 (gB e489) (fun h508=>
 (cJ h508 h21 (gB e506) (fun h509=>
 J286 (az h490,az h21) h509))))) h505) h503))))) h488)∧
 At (hnew h488 ml aI) (fun h510=>
 ((aM h510 h17 0 v296∧ae h510 h17 1 v297∧ae h510 h17 2 v298∧ae h510 h17 3 v299∧au h510 h17 4 v300∧au h510 h17 5 v301)∧
 ((ae h510 h0 0 v287∧ae h510 h0 1 v288∧ae h510 h0 2 v289)∧
 HC PG cY [pW v287 v288 v289,.pointer e487] gV (fun(e511:T6) h512=>
 ((aM h512 h17 0 v296∧ae h512 h17 1 v297∧ae h512 h17 2 v298∧ae h512 h17 3 v299∧au h512 h17 4 v300∧au h512 h17 5 v301)∧
 HC PG bR [oe v296 v297 v298 v299 v300 v301] [.c .ptr] (fun(e513:Option Addr) h514=>
 HC PG bq [.pointer e513] gV (fun(e515:T6) h516=>
 (cJ h516 h488 (gB e511) (fun h517=>
 (cJ h517 h21 (gB e515) (fun h518=>
 J286 (az h488,az h21) h518))))) h514) h512)) h510))))))) h486)∧
 At (hnew h486 ml aI) (fun h519=>
 ((aM h519 h17 0 v296∧ae h519 h17 1 v297∧ae h519 h17 2 v298∧ae h519 h17 3 v299∧au h519 h17 4 v300∧au h519 h17 5 v301)∧
 ((aM h519 h8 0 v290∧ae h519 h8 1 v291∧ae h519 h8 2 v292∧ae h519 h8 3 v293∧au h519 h8 4 v294∧au h519 h8 5 v295)∧
 ((ae h519 h0 0 v287∧ae h519 h0 1 v288∧ae h519 h0 2 v289)∧
 HC PG cR [oe v290 v291 v292 v293 v294 v295] [.c .ptr] (fun(e520:Option Addr) h521=>
 ((aM h521 h17 0 v296∧ae h521 h17 1 v297∧ae h521 h17 2 v298∧ae h521 h17 3 v299∧au h521 h17 4 v300∧au h521 h17 5 v301)∧
 ((ae h521 h0 0 v287∧ae h521 h0 1 v288∧ae h521 h0 2 v289)∧
 HC PG cY [pW v287 v288 v289,.pointer e520] gV (fun(e522:T6) h523=>
 ((aM h523 h17 0 v296∧ae h523 h17 1 v297∧ae h523 h17 2 v298∧ae h523 h17 3 v299∧au h523 h17 4 v300∧au h523 h17 5 v301)∧
 HC PG bR [oe v296 v297 v298 v299 v300 v301] [.c .ptr] (fun(e524:Option Addr) h525=>
 HC PG bq [.pointer e524] gV (fun(e526:T6) h527=>
 (cJ h527 h486 (gB e522) (fun h528=>
 (cJ h528 h21 (gB e526) (fun h529=>
 J286 (az h486,az h21) h529))))) h525) h523)) h521))) h519))))))))))))))))))) h12))))))) h3)) h1)
noncomputable def AE:Ann:=.node .nil (.node .nil (.node .nil (.node .nil (.join [(11,.c .adr),(12,.c .adr)] .nil .nil))))
theorem AC(x0:Int)(x1:Int×Int×Int)(x2:SliceV){K:cW [.c .bool]→ad→Prop}{h0:ad}(h:tX x0 x1 x2 K h0):HC PG tN [.int .i64 x0,HJ x1,.slice x2.a x2.len x2.cap] [.c .bool] K h0:=ed AE Tryz.func4 Tryz.call4 rfl rfl (by kernel_rfl) h
def xg(x0:Int)(x1:Int×Int×Int)(K:((T6)×Int)→ad→Prop)(h0:ad):Prop:=
 At (hnew h0 (yE x1) cC) (fun h1=>
 At (hnew h1 ml aI) (fun h2=>
 CondP (x0==(0:Int)) (
 ∃v3,ae h2 h0 0 v3∧
 ∃v4,ae h2 h0 1 v4∧
 ∃v5,ae h2 h0 2 v5∧
 HC PG cY [pW v3 v4 v5,.pointer none] gV (fun(e6:T6) h7=>
 (cJ h7 h1 (gB e6) (fun h8=>
 ∃v9,aM h8 h1 0 v9∧
 ∃v10,ae h8 h1 1 v10∧
 ∃v11,ae h8 h1 2 v11∧
 ∃v12,ae h8 h1 3 v12∧
 ∃v13,au h8 h1 4 v13∧
 ∃v14,au h8 h1 5 v14∧
 K ((v9,v10,v11,v12,v13,v14),0) h8))) h2) (
 CondP (x0==(1:Int)) (
 HC PG bq [.pointer none] gV (fun(e15:T6) h16=>
 (cJ h16 h1 (gB e15) (fun h17=>
 ∃v18,aM h17 h1 0 v18∧
 ∃v19,ae h17 h1 1 v19∧
 ∃v20,ae h17 h1 2 v20∧
 ∃v21,ae h17 h1 3 v21∧
 ∃v22,au h17 h1 4 v22∧
 ∃v23,au h17 h1 5 v23∧
 K ((v18,v19,v20,v21,v22,v23),0) h17))) h2) (
 (cJ h2 h1 ml (fun h24=>
 ∃v25,aM h24 h1 0 v25∧
 ∃v26,ae h24 h1 1 v26∧
 ∃v27,ae h24 h1 2 v27∧
 ∃v28,ae h24 h1 3 v28∧
 ∃v29,au h24 h1 4 v29∧
 ∃v30,au h24 h1 5 v30∧
 K ((v25,v26,v27,v28,v29,v30),11) h24))))))
theorem Cr(x0:Int)(x1:Int×Int×Int){K:cW yX→ad→Prop}{h0:ad}(h:xg x0 x1 K h0):HC PG mS [.int .i64 x0,HJ x1] yX K h0:=ed .nil Tryz.func18 Tryz.call18 rfl rfl (by kernel_rfl) h
def mL(x0:T6)(K:(Int)→ad→Prop)(h0:ad):Prop:=
 At (hnew h0 (gB x0) aI) (fun h1=>
 ∃v2,aM h1 h0 0 v2∧
 CondP (v2==(1:Int)) (
 ∃v3,au h1 h0 5 v3∧
 HC PG qS [.pointer v3] cy (fun(e4:Int) h5=>
 K e4 h5) h1) (
 ∃v6,au h1 h0 4 v6∧
 HC PG qV [.pointer v6] cy (fun(e7:Int) h8=>
 K e7 h8) h1))
theorem pG(x0:T6){K:cW cy→ad→Prop}{h0:ad}(h:mL x0 K h0):HC PG gX [IB x0] cy K h0:=ed .nil Tryz.func20 Tryz.call20 rfl rfl (by kernel_rfl) h
def CC(x0:SliceV)(x1:SliceV)(K:(Bool)→ad→Prop)(h0:ad):Prop:=
 CondP ((x0.len:Int) !=(x1.len:Int)) (
 K false h0) (
 LoopP (fun I1 (t2:Int) h3=>
 CondP (decide (t2<(x0.len:Int))) (
 (dd t2 x0.len∧∃a4,x0.a=some a4∧
 ∃v5,cf h3 a4 (t2.toNat*1) (.int .u8 v5)∧
 (dd t2 x1.len∧∃a6,x1.a=some a6∧
 ∃v7,cf h3 a6 (t2.toNat*1) (.int .u8 v7)∧
 CondP (v5 !=v7) (
 K false h3) (
 I1 (IntKind.wrap .i64 (t2+1)) h3)))) (
 K true h3)) 0 h0)
noncomputable def JS:Ann:=.node .nil (.node .nil (.node (.node .nil (.loop [(13,.c (.int .i64))] .nil)) .nil))
theorem JD(x0:SliceV)(x1:SliceV){K:cW [.c .bool]→ad→Prop}{h0:ad}(h:CC x0 x1 K h0):HC PG wL (MD x0 x1) [.c .bool] K h0:=ed JS Tryz.func22 Tryz.call22 rfl rfl (by kernel_rfl) h
def nQ(x0:T6)(K:(SliceV)→ad→Prop)(h0:ad):Prop:=
 At (hnew h0 (gB x0) aI) (fun h1=>
 ∃v2,aM h1 h0 0 v2∧
 CondP (v2==(1:Int)) (
 At (hnew h1 [.int .u8 1] cD) (fun h3=>
 ∃v4,au h3 h0 5 v4∧
 HC PG rE [.pointer v4] [.c .slice] (fun(e5:SliceV) h6=>
 ∃xs7,SRow h6 e5.a (e5.len*1) xs7∧
 AppP (some [.int .u8 0]) 1 1 cD (some (az h1)) 1 1 e5.len xs7 h6 (fun s8 h9=>
 K s8 h9)) h3)) (
 At (hnew h1 [.int .u8 0] cD) (fun h10=>
 ∃v11,aM h10 h0 0 v11∧
 ∃v12,ae h10 h0 1 v12∧
 ∃v13,ae h10 h0 2 v13∧
 ∃v14,ae h10 h0 3 v14∧
 ∃v15,au h10 h0 4 v15∧
 ∃v16,au h10 h0 5 v16∧
 HC PG cR [oe v11 v12 v13 v14 v15 v16] [.c .ptr] (fun(e17:Option Addr) h18=>
 HC PG wJ [.pointer e17] [.c .slice] (fun(e19:SliceV) h20=>
 ∃xs21,SRow h20 e19.a (e19.len*1) xs21∧
 AppP (some [.int .u8 0]) 1 1 cD (some (az h1)) 1 1 e19.len xs21 h20 (fun s22 h23=>
 K s22 h23)) h18) h10)))
theorem qZ(x0:T6){K:cW [.c .slice]→ad→Prop}{h0:ad}(h:nQ x0 K h0):HC PG kF [IB x0] [.c .slice] K h0:=ed .nil Tryz.func23 Tryz.call23 rfl rfl (by kernel_rfl) h
def Af(x0:T5)(K:(SliceV)→ad→Prop)(h0:ad):Prop:=
 At (hnew h0 (Ms x0) iq) (fun h1=>
 ∃v2,aM h1 h0 0 v2∧
 CondP (v2==(1:Int)) (
 At (hnew h1 [.int .u8 1] cD) (fun h3=>
 ∃v4:SliceV,eP h3 h0 4 v4∧
 HC PG B5 [.slice v4.a v4.len v4.cap] [.c .ptr] (fun(e5:Option Addr) h6=>
 HC PG qT [.pointer e5] [.c .slice] (fun(e7:SliceV) h8=>
 ∃xs9,SRow h8 e7.a (e7.len*1) xs9∧
 AppP (some [.int .u8 0]) 1 1 cD (some (az h1)) 1 1 e7.len xs9 h8 (fun s10 h11=>
 K s10 h11)) h6) h3)) (
 At (hnew h1 [.int .u8 0] cD) (fun h12=>
 ∃v13,dQ h12 (adr (az h0) 1) 0 v13∧
 ∃v14,dQ h12 (adr (az h0) 1) 1 v14∧
 ∃v15,dQ h12 (adr (az h0) 1) 2 v15∧
 ∃v16:SliceV,eP h12 h0 4 v16∧
 HC PG B6 [pW v13 v14 v15,.slice v16.a v16.len v16.cap,.int .i64 0] [.c .ptr] (fun(e17:Option Addr) h18=>
 HC PG xQ (xo e17 0) [.c .slice] (fun(e19:SliceV) h20=>
 ∃xs21,SRow h20 e19.a (e19.len*1) xs21∧
 AppP (some [.int .u8 0]) 1 1 cD (some (az h1)) 1 1 e19.len xs21 h20 (fun s22 h23=>
 K s22 h23)) h18) h12)))
theorem Hm(x0:T5){K:cW [.c .slice]→ad→Prop}{h0:ad}(h:Af x0 K h0):HC PG uF [RC x0] [.c .slice] K h0:=ed .nil Tryz.func24 Tryz.call24 rfl rfl (by kernel_rfl) h
def nR(x0:T6)(K:(Bool)→ad→Prop)(h0:ad):Prop:=
 At (hnew h0 (gB x0) aI) (fun h1=>
 ∃v2,aM h1 h0 0 v2∧
 CondP (v2==(1:Int)) (
 ∃v3,au h1 h0 5 v3∧
 HC PG rF [.pointer v3] [.c .bool] (fun(e4:Bool) h5=>
 K e4 h5) h1) (
 ∃v6,dQ h1 (adr (az h0) 1) 0 v6∧
 ∃v7,dQ h1 (adr (az h0) 1) 1 v7∧
 ∃v8,dQ h1 (adr (az h0) 1) 2 v8∧
 ∃v9,aM h1 h0 0 v9∧
 ∃v10,ae h1 h0 1 v10∧
 ∃v11,ae h1 h0 2 v11∧
 ∃v12,ae h1 h0 3 v12∧
 ∃v13,au h1 h0 4 v13∧
 ∃v14,au h1 h0 5 v14∧
 HC PG cR [oe v9 v10 v11 v12 v13 v14] [.c .ptr] (fun(e15:Option Addr) h16=>
 ((dQ h16 (adr (az h0) 1) 0 v6∧dQ h16 (adr (az h0) 1) 1 v7∧dQ h16 (adr (az h0) 1) 2 v8)∧
 HC PG vP [pW v6 v7 v8,.pointer e15] [.c .bool] (fun(e17:Bool) h18=>
 K e17 h18) h16)) h1))
theorem q9(x0:T6){K:cW [.c .bool]→ad→Prop}{h0:ad}(h:nR x0 K h0):HC PG kG [IB x0] [.c .bool] K h0:=ed .nil Tryz.func25 Tryz.call25 rfl rfl (by kernel_rfl) h
def Al(K:(Bool)→ad→Prop)(h0:ad):Prop:=
 HC PG mS [.int .i64 1,zg0] yX (fun(e1:(T6)×Int) h2=>
 nv h2 ml aI (gB e1.1) (fun h4=>
 ∃v5,aM h4 h2 0 v5∧
 ∃v6,ae h4 h2 1 v6∧
 ∃v7,ae h4 h2 2 v7∧
 ∃v8,ae h4 h2 3 v8∧
 ∃v9,au h4 h2 4 v9∧
 ∃v10,au h4 h2 5 v10∧
 HC PG ij [oe v5 v6 v7 v8 v9 v10,.pointer none,o9 (⟨#[97]⟩:ByteArray) (⟨#[49]⟩:ByteArray)] yX (fun(e11:(T6)×Int) h12=>
 nv h12 ml aI (gB e11.1) (fun h14=>
 ∃v15,aM h14 h12 0 v15∧
 ∃v16,ae h14 h12 1 v16∧
 ∃v17,ae h14 h12 2 v17∧
 ∃v18,ae h14 h12 3 v18∧
 ∃v19,au h14 h12 4 v19∧
 ∃v20,au h14 h12 5 v20∧
 HC PG fR [oe v15 v16 v17 v18 v19 v20] [.c .slice] (fun(e21:SliceV) h22=>
 CondP (e1.2==(0:Int)) (
 CondP (e11.2==(0:Int)) (
 CondP ((e21.len:Int)==(1:Int)) (
 (dd 0 e21.len∧∃a23,e21.a=some a23∧
 ∃v24,bC h22 (adr a23 ((0:Int).toNat*2)) 0 v24∧
 CondP (v24.toList==(⟨#[97]⟩:ByteArray).toList) (
 ∃v25,aM h22 h2 0 v25∧
 ∃v26,ae h22 h2 1 v26∧
 ∃v27,ae h22 h2 2 v27∧
 ∃v28,ae h22 h2 3 v28∧
 ∃v29,au h22 h2 4 v29∧
 ∃v30,au h22 h2 5 v30∧
 HC PG gX [oe v25 v26 v27 v28 v29 v30] cy (fun(e31:Int) h32=>
 CondP (e31==(0:Int)) (
 ∃v33,aM h32 h12 0 v33∧
 ∃v34,ae h32 h12 1 v34∧
 ∃v35,ae h32 h12 2 v35∧
 ∃v36,ae h32 h12 3 v36∧
 ∃v37,au h32 h12 4 v37∧
 ∃v38,au h32 h12 5 v38∧
 HC PG lL [oe v33 v34 v35 v36 v37 v38] cy (fun(e39:Int) h40=>
 K (e39==(1:Int)) h40) h32) (
 K false h32)) h22) (
 K false h22))) (
 K false h22)) (
 K false h22)) (
 K false h22)) h14)) h4)) h0
theorem Hv{K:cW [.c .bool]→ad→Prop}{h0:ad}(h:Al K h0):HC PG uH [] [.c .bool] K h0:=ed .nil Tryz.func26 Tryz.call26 rfl rfl (by kernel_rfl) h
def CM(x0:Int)(x1:Int×Int×Int)(x2:SliceV)(K:((T6)×(T5))→ad→Prop)(h0:ad):Prop:=
 At (hnew h0 (yE x1) cC) (fun h1=>
 At (hnew h1 ml aI) (fun h2=>
 At (hnew h2 Mw iq) (fun h3=>
 ∃v4,ae h3 h0 0 v4∧
 ∃v5,ae h3 h0 1 v5∧
 ∃v6,ae h3 h0 2 v6∧
 HC PG mS [.int .i64 x0,pW v4 v5 v6] yX (fun(e7:(T6)×Int) h8=>
 nv h8 ml aI (gB e7.1) (fun h10=>
 ∃v11,ae h10 h0 0 v11∧
 ∃v12,ae h10 h0 1 v12∧
 ∃v13,ae h10 h0 2 v13∧
 HC PG r6 [pW v11 v12 v13] BS (fun(e14:Int×Int×Int) h15=>
 HC PG y6 [.int .i64 x0,HJ e14] IV (fun(e16:(T5)×Int) h17=>
 nv h17 Mw iq (Ms e16.1) (fun h19=>
 LoopP (fun I20 (t21:Int) h22=>
 CondP (decide (t21<(x2.len:Int))) (
 Join (fun(t57:Unit) h58=>
 I20 (IntKind.wrap .i64 (t21+1)) h58) (fun J23=>
 (dd t21 x2.len∧∃a24,x2.a=some a24∧
 ∃v25,bC h22 (adr a24 (t21.toNat*2)) 0 v25∧
 ∃v26,bC h22 (adr a24 (t21.toNat*2)) 1 v26∧
 nv h22 kU ag (jx v25 v26) (fun h28=>
 CondP (decide (t21<(25:Int))) (
 ∃v29,av h28 h22 0 v29∧
 ∃v30,av h28 h22 1 v30∧
 HC PG tq (Rh v29 0) [.c .str] (fun(e31:ByteArray) h32=>
 (av h32 h22 1 v30∧
 HC PG tq (Rh v30 0) [.c .str] (fun(e33:ByteArray) h34=>
 (cJ h34 h22 (jx e31 e33) (fun h35=>
 ∃v36,aM h35 h8 0 v36∧
 ∃v37,ae h35 h8 1 v37∧
 ∃v38,ae h35 h8 2 v38∧
 ∃v39,ae h35 h8 3 v39∧
 ∃v40,au h35 h8 4 v40∧
 ∃v41,au h35 h8 5 v41∧
 ∃v42,av h35 h22 0 v42∧
 ∃v43,av h35 h22 1 v43∧
 HC PG ij [oe v36 v37 v38 v39 v40 v41,.pointer none,o9 v42 v43] yX (fun(e44:(T6)×Int) h45=>
 (cJ h45 h8 (gB e44.1) (fun h46=>
 ∃v47,aM h46 h17 0 v47∧
 ∃v48,ae h46 h17 1 v48∧
 ∃v49,ae h46 h17 2 v49∧
 ∃v50,ae h46 h17 3 v50∧
 ∃v51:SliceV,eP h46 h17 4 v51∧
 ∃v52,av h46 h22 0 v52∧
 ∃v53,av h46 h22 1 v53∧
 HC PG wK [PX v47 v48 v49 v50 v51,o9 v52 v53] IV (fun(e54:(T5)×Int) h55=>
 (cJ h55 h17 (Ms e54.1) (fun h56=>
 J23 () h56))) h46))) h35))) h32)) h28) (
 J23 () h28))))) (
 ∃v59,aM h22 h8 0 v59∧
 ∃v60,ae h22 h8 1 v60∧
 ∃v61,ae h22 h8 2 v61∧
 ∃v62,ae h22 h8 3 v62∧
 ∃v63,au h22 h8 4 v63∧
 ∃v64,au h22 h8 5 v64∧
 ∃v65,aM h22 h17 0 v65∧
 ∃v66,ae h22 h17 1 v66∧
 ∃v67,ae h22 h17 2 v67∧
 ∃v68,ae h22 h17 3 v68∧
 ∃v69:SliceV,eP h22 h17 4 v69∧
 (cJ h22 h1 (Lg v59 v60 v61 v62 v63 v64) (fun h70=>
 ((aM h70 h17 0 v65∧ae h70 h17 1 v66∧ae h70 h17 2 v67∧ae h70 h17 3 v68∧eP h70 h17 4 v69)∧
 (cJ h70 h2 (QI v65 v66 v67 v68 v69) (fun h71=>
 ∃v72,aM h71 h1 0 v72∧
 ∃v73,ae h71 h1 1 v73∧
 ∃v74,ae h71 h1 2 v74∧
 ∃v75,ae h71 h1 3 v75∧
 ∃v76,au h71 h1 4 v76∧
 ∃v77,au h71 h1 5 v77∧
 ∃v78,aM h71 h2 0 v78∧
 ∃v79,ae h71 h2 1 v79∧
 ∃v80,ae h71 h2 2 v80∧
 ∃v81,ae h71 h2 3 v81∧
 ∃v82:SliceV,eP h71 h2 4 v82∧
 K ((v72,v73,v74,v75,v76,v77),(v78,v79,v80,v81,v82)) h71))))))) 0 h19)) h15) h10)) h3)))
noncomputable def JX:Ann:=.node .nil (.node .nil (.node .nil (.node (.node .nil (.loop [(29,.c (.int .i64))] (.node .nil (.node .nil (.join [] .nil .nil))))) .nil)))
theorem JK(x0:Int)(x1:Int×Int×Int)(x2:SliceV){K:cW Nv→ad→Prop}{h0:ad}(h:CM x0 x1 x2 K h0):HC PG tm [.int .i64 x0,HJ x1,.slice x2.a x2.len x2.cap] Nv K h0:=ed JX Tryz.func27 Tryz.call27 rfl rfl (by kernel_rfl) h
def qr(x0:Int×Int×Int)(x1:Option Addr)(K:(T6)→ad→Prop)(h0:ad):Prop:=
 At (hnew h0 (yE x0) cC) (fun h1=>
 At (hnew h1 ml aI) (fun h2=>
 Join (fun(t6:Option Addr) h7=>
 ∃v8,ae h7 h0 0 v8∧
 ∃v9,ae h7 h0 1 v9∧
 ∃v10,ae h7 h0 2 v10∧
 (cJ h7 h1 (Lg 0 v8 v9 v10 t6 none) (fun h11=>
 ∃v12,aM h11 h1 0 v12∧
 ∃v13,ae h11 h1 1 v13∧
 ∃v14,ae h11 h1 2 v14∧
 ∃v15,ae h11 h1 3 v15∧
 ∃v16,au h11 h1 4 v16∧
 ∃v17,au h11 h1 5 v17∧
 K (v12,v13,v14,v15,v16,v17) h11))) (fun J3=>
 CondP x1.isNone (
 HC PG my [] [.c .ptr] (fun(e4:Option Addr) h5=>
 J3 e4 h5) h2) (
 J3 x1 h2))))
noncomputable def CS:Ann:=.node .nil (.join [(1,.c .ptr)] .nil .nil)
theorem uP(x0:Int×Int×Int)(x1:Option Addr){K:cW gV→ad→Prop}{h0:ad}(h:qr x0 x1 K h0):HC PG cY [HJ x0,.pointer x1] gV K h0:=ed CS Tryz.func28 Tryz.call28 rfl rfl (by kernel_rfl) h
def kO(x0:T6)(K:(Option Addr)→ad→Prop)(h0:ad):Prop:=
 At (hnew h0 (gB x0) aI) (fun h1=>
 Join (fun(t5:Bool) h6=>
 CondP t5 (
 HC PG my [] [.c .ptr] (fun(e7:Option Addr) h8=>
 K e7 h8) h6) (
 ∃v9,au h6 h0 4 v9∧
 K v9 h6)) (fun J2=>
 ∃v3,aM h1 h0 0 v3∧
 CondP (v3==(0:Int)) (
 ∃v4,au h1 h0 4 v4∧
 J2 v4.isNone h1) (
 J2 false h1)))
noncomputable def yB:Ann:=.node .nil (.node (.join [(10,.c .bool)] .nil .nil) .nil)
theorem nM(x0:T6){K:cW [.c .ptr]→ad→Prop}{h0:ad}(h:kO x0 K h0):HC PG cR [IB x0] [.c .ptr] K h0:=ed yB Tryz.func29 Tryz.call29 rfl rfl (by kernel_rfl) h
def qq(x0:Option Addr)(K:(T6)→ad→Prop)(h0:ad):Prop:=
 At (hnew h0 ml aI) (fun h1=>
 Join (fun(t5:Option Addr) h6=>
 (cJ h6 h0 (Lg 1 0 0 0 none t5) (fun h7=>
 ∃v8,aM h7 h0 0 v8∧
 ∃v9,ae h7 h0 1 v9∧
 ∃v10,ae h7 h0 2 v10∧
 ∃v11,ae h7 h0 3 v11∧
 ∃v12,au h7 h0 4 v12∧
 ∃v13,au h7 h0 5 v13∧
 K (v8,v9,v10,v11,v12,v13) h7))) (fun J2=>
 CondP x0.isNone (
 HC PG oX [] [.c .ptr] (fun(e3:Option Addr) h4=>
 J2 e3 h4) h1) (
 J2 x0 h1)))
noncomputable def CR:Ann:=.node .nil (.join [(0,.c .ptr)] .nil .nil)
theorem uO(x0:Option Addr){K:cW gV→ad→Prop}{h0:ad}(h:qq x0 K h0):HC PG bq [.pointer x0] gV K h0:=ed CR Tryz.func30 Tryz.call30 rfl rfl (by kernel_rfl) h
def rb(x0:T6)(K:(Option Addr)→ad→Prop)(h0:ad):Prop:=
 At (hnew h0 (gB x0) aI) (fun h1=>
 ∃v2,au h1 h0 5 v2∧
 K v2 h1)
theorem yc(x0:T6){K:cW [.c .ptr]→ad→Prop}{h0:ad}(h:rb x0 K h0):HC PG bR [IB x0] [.c .ptr] K h0:=ed .nil Tryz.func31 Tryz.call31 rfl rfl (by kernel_rfl) h
def oH(x0:T6)(x1:Option Addr)(x2:ByteArray×ByteArray)(K:((T6)×Int)→ad→Prop)(h0:ad):Prop:=
 At (hnew h0 (gB x0) aI) (fun h1=>
 At (hnew h1 (sP x2) ag) (fun h2=>
 At (hnew h2 ml aI) (fun h3=>
 ∃v4,av h3 h1 0 v4∧
 ∃v5,av h3 h1 1 v5∧
 HC PG tl (jx v4 v5) cy (fun(e6:Int) h7=>
 CondP (e6 !=(0:Int)) (
 ∃v8,aM h7 h0 0 v8∧
 ∃v9,ae h7 h0 1 v9∧
 ∃v10,ae h7 h0 2 v10∧
 ∃v11,ae h7 h0 3 v11∧
 ∃v12,au h7 h0 4 v12∧
 ∃v13,au h7 h0 5 v13∧
 (cJ h7 h2 (Lg v8 v9 v10 v11 v12 v13) (fun h14=>
 ∃v15,aM h14 h2 0 v15∧
 ∃v16,ae h14 h2 1 v16∧
 ∃v17,ae h14 h2 2 v17∧
 ∃v18,ae h14 h2 3 v18∧
 ∃v19,au h14 h2 4 v19∧
 ∃v20,au h14 h2 5 v20∧
 K ((v15,v16,v17,v18,v19,v20),e6) h14))) (
 ∃v21,aM h7 h0 0 v21∧
 CondP (v21==(1:Int)) (
 ∃v22,au h7 h0 5 v22∧
 ∃v23,av h7 h1 0 v23∧
 ∃v24,av h7 h1 1 v24∧
 HC PG uE [.pointer x1,.pointer v22,o9 v23 v24] uw (fun(e25:(Option Addr)×Bool) h26=>
 (dL h26 (adr (az h0) 5) (.pointer e25.1) (fun h27=>
 ∃v28,aM h27 h0 0 v28∧
 ∃v29,ae h27 h0 1 v29∧
 ∃v30,ae h27 h0 2 v30∧
 ∃v31,ae h27 h0 3 v31∧
 ∃v32,au h27 h0 4 v32∧
 ∃v33,au h27 h0 5 v33∧
 (cJ h27 h2 (Lg v28 v29 v30 v31 v32 v33) (fun h34=>
 ∃v35,aM h34 h2 0 v35∧
 ∃v36,ae h34 h2 1 v36∧
 ∃v37,ae h34 h2 2 v37∧
 ∃v38,ae h34 h2 3 v38∧
 ∃v39,au h34 h2 4 v39∧
 ∃v40,au h34 h2 5 v40∧
 K ((v35,v36,v37,v38,v39,v40),0) h34))))) h7) (
 ∃v41,dQ h7 (adr (az h0) 1) 0 v41∧
 ∃v42,dQ h7 (adr (az h0) 1) 1 v42∧
 ∃v43,dQ h7 (adr (az h0) 1) 2 v43∧
 ∃v44,au h7 h0 4 v44∧
 ∃v45,av h7 h1 0 v45∧
 ∃v46,av h7 h1 1 v46∧
 HC PG uI [pW v41 v42 v43,.pointer x1,.pointer v44,o9 v45 v46] uw (fun(e47:(Option Addr)×Bool) h48=>
 (dL h48 (adr (az h0) 4) (.pointer e47.1) (fun h49=>
 ∃v50,aM h49 h0 0 v50∧
 ∃v51,ae h49 h0 1 v51∧
 ∃v52,ae h49 h0 2 v52∧
 ∃v53,ae h49 h0 3 v53∧
 ∃v54,au h49 h0 4 v54∧
 ∃v55,au h49 h0 5 v55∧
 (cJ h49 h2 (Lg v50 v51 v52 v53 v54 v55) (fun h56=>
 ∃v57,aM h56 h2 0 v57∧
 ∃v58,ae h56 h2 1 v58∧
 ∃v59,ae h56 h2 2 v59∧
 ∃v60,ae h56 h2 3 v60∧
 ∃v61,au h56 h2 4 v61∧
 ∃v62,au h56 h2 5 v62∧
 K ((v57,v58,v59,v60,v61,v62),0) h56))))) h7))) h3)))
theorem r9(x0:T6)(x1:Option Addr)(x2:ByteArray×ByteArray){K:cW yX→ad→Prop}{h0:ad}(h:oH x0 x1 x2 K h0):HC PG ij [IB x0,.pointer x1,Kt x2] yX K h0:=ed .nil Tryz.func32 Tryz.call32 rfl rfl (by kernel_rfl) h
def CO(x0:T6)(x1:T5)(K:(Bool)→ad→Prop)(h0:ad):Prop:=
 At (hnew h0 (gB x0) aI) (fun h1=>
 At (hnew h1 (Ms x1) iq) (fun h2=>
 ∃v3,aM h2 h0 0 v3∧
 ∃v4,ae h2 h0 1 v4∧
 ∃v5,ae h2 h0 2 v5∧
 ∃v6,ae h2 h0 3 v6∧
 ∃v7,au h2 h0 4 v7∧
 ∃v8,au h2 h0 5 v8∧
 HC PG fR [oe v3 v4 v5 v6 v7 v8] [.c .slice] (fun(e9:SliceV) h10=>
 Join (fun(t68:Bool) h69=>
 CondP t68 (
 K false h69) (
 LoopP (fun I70 (t71:Int) h72=>
 CondP (decide (t71<(e9.len:Int))) (
 (dd t71 e9.len∧∃a73,e9.a=some a73∧
 ∃v74,bC h72 (adr a73 (t71.toNat*2)) 0 v74∧
 ∃v75,bC h72 (adr a73 (t71.toNat*2)) 1 v75∧
 ∃v76:SliceV,eP h72 h1 4 v76∧
 (dd t71 v76.len∧∃a77,v76.a=some a77∧
 ∃v78,bC h72 (adr a77 (t71.toNat*2)) 0 v78∧
 ∃v79,bC h72 (adr a77 (t71.toNat*2)) 1 v79∧
 CondP (!(((v74.toList==v78.toList)&&((v75.toList==v79.toList)&&true)))) (
 K false h72) (
 I70 (IntKind.wrap .i64 (t71+1)) h72)))) (
 ∃v80,aM h72 h0 0 v80∧
 ∃v81,ae h72 h0 1 v81∧
 ∃v82,ae h72 h0 2 v82∧
 ∃v83,ae h72 h0 3 v83∧
 ∃v84,au h72 h0 4 v84∧
 ∃v85,au h72 h0 5 v85∧
 ∃v86,aM h72 h1 0 v86∧
 HC PG cR [oe v80 v81 v82 v83 v84 v85] [.c .ptr] (fun(e87:Option Addr) h88=>
 (aM h88 h1 0 v86∧
 CondP ((!(e87.isNone))==(v86==(0:Int))) (
 ∃v89,aM h88 h0 0 v89∧
 ∃v90,ae h88 h0 1 v90∧
 ∃v91,ae h88 h0 2 v91∧
 ∃v92,ae h88 h0 3 v92∧
 ∃v93,au h88 h0 4 v93∧
 ∃v94,au h88 h0 5 v94∧
 ∃v95,aM h88 h1 0 v95∧
 HC PG bR [oe v89 v90 v91 v92 v93 v94] [.c .ptr] (fun(e96:Option Addr) h97=>
 (aM h97 h1 0 v95∧
 (aM h97 h1 0 v86∧
 K ((!(e96.isNone))==(v95==(1:Int))) h97))) h88) (
 K false h88))) h72)) 0 h69)) (fun J11=>
 ∃v12,aM h10 h0 0 v12∧
 ∃v13,ae h10 h0 1 v13∧
 ∃v14,ae h10 h0 2 v14∧
 ∃v15,ae h10 h0 3 v15∧
 ∃v16,au h10 h0 4 v16∧
 ∃v17,au h10 h0 5 v17∧
 ∃v18,aM h10 h1 0 v18∧
 HC PG lL [oe v12 v13 v14 v15 v16 v17] cy (fun(e19:Int) h20=>
 (aM h20 h1 0 v18∧
 CondP (e19 !=v18) (
 J11 true h20) (
 ∃v21,aM h20 h0 0 v21∧
 ∃v22,ae h20 h0 1 v22∧
 ∃v23,ae h20 h0 2 v23∧
 ∃v24,ae h20 h0 3 v24∧
 ∃v25,au h20 h0 4 v25∧
 ∃v26,au h20 h0 5 v26∧
 ∃v27,dQ h20 (adr (az h1) 1) 0 v27∧
 ∃v28,dQ h20 (adr (az h1) 1) 1 v28∧
 ∃v29,dQ h20 (adr (az h1) 1) 2 v29∧
 HC PG mR [oe v21 v22 v23 v24 v25 v26] BS (fun(e30:Int×Int×Int) h31=>
 ((dQ h31 (adr (az h1) 1) 0 v27∧dQ h31 (adr (az h1) 1) 1 v28∧dQ h31 (adr (az h1) 1) 2 v29)∧
 (aM h31 h1 0 v18∧
 HC PG r6 [HJ e30] BS (fun(e32:Int×Int×Int) h33=>
 ((dQ h33 (adr (az h1) 1) 0 v27∧dQ h33 (adr (az h1) 1) 1 v28∧dQ h33 (adr (az h1) 1) 2 v29)∧
 (aM h33 h1 0 v18∧
 CondP (!(((e32.1==v27)&&((e32.2.1==v28)&&((e32.2.2==v29)&&true))))) (
 J11 true h33) (
 ∃v34:SliceV,eP h33 h1 4 v34∧
 CondP ((e9.len:Int) !=(v34.len:Int)) (
 J11 true h33) (
 ∃v35,aM h33 h0 0 v35∧
 ∃v36,ae h33 h0 1 v36∧
 ∃v37,ae h33 h0 2 v37∧
 ∃v38,ae h33 h0 3 v38∧
 ∃v39,au h33 h0 4 v39∧
 ∃v40,au h33 h0 5 v40∧
 HC PG gX [oe v35 v36 v37 v38 v39 v40] cy (fun(e41:Int) h42=>
 (eP h42 h1 4 v34∧
 ((dQ h42 (adr (az h1) 1) 0 v27∧dQ h42 (adr (az h1) 1) 1 v28∧dQ h42 (adr (az h1) 1) 2 v29)∧
 (aM h42 h1 0 v18∧
 CondP (e41 !=(e9.len:Int)) (
 J11 true h42) (
 ∃v43,aM h42 h0 0 v43∧
 ∃v44,ae h42 h0 1 v44∧
 ∃v45,ae h42 h0 2 v45∧
 ∃v46,ae h42 h0 3 v46∧
 ∃v47,au h42 h0 4 v47∧
 ∃v48,au h42 h0 5 v48∧
 ∃v49,aM h42 h1 0 v49∧
 ∃v50,ae h42 h1 1 v50∧
 ∃v51,ae h42 h1 2 v51∧
 ∃v52,ae h42 h1 3 v52∧
 ∃v53:SliceV,eP h42 h1 4 v53∧
 HC PG kF [oe v43 v44 v45 v46 v47 v48] [.c .slice] (fun(e54:SliceV) h55=>
 ((aM h55 h1 0 v49∧ae h55 h1 1 v50∧ae h55 h1 2 v51∧ae h55 h1 3 v52∧eP h55 h1 4 v53)∧
 (eP h55 h1 4 v34∧
 ((dQ h55 (adr (az h1) 1) 0 v27∧dQ h55 (adr (az h1) 1) 1 v28∧dQ h55 (adr (az h1) 1) 2 v29)∧
 (aM h55 h1 0 v18∧
 HC PG uF [PX v49 v50 v51 v52 v53] [.c .slice] (fun(e56:SliceV) h57=>
 (eP h57 h1 4 v34∧
 ((dQ h57 (adr (az h1) 1) 0 v27∧dQ h57 (adr (az h1) 1) 1 v28∧dQ h57 (adr (az h1) 1) 2 v29)∧
 (aM h57 h1 0 v18∧
 HC PG wL (MD e54 e56) [.c .bool] (fun(e58:Bool) h59=>
 (eP h59 h1 4 v34∧
 ((dQ h59 (adr (az h1) 1) 0 v27∧dQ h59 (adr (az h1) 1) 1 v28∧dQ h59 (adr (az h1) 1) 2 v29)∧
 (aM h59 h1 0 v18∧
 CondP (!e58) (
 J11 true h59) (
 ∃v60,aM h59 h0 0 v60∧
 ∃v61,ae h59 h0 1 v61∧
 ∃v62,ae h59 h0 2 v62∧
 ∃v63,ae h59 h0 3 v63∧
 ∃v64,au h59 h0 4 v64∧
 ∃v65,au h59 h0 5 v65∧
 HC PG kG [oe v60 v61 v62 v63 v64 v65] [.c .bool] (fun(e66:Bool) h67=>
 (eP h67 h1 4 v34∧
 ((dQ h67 (adr (az h1) 1) 0 v27∧dQ h67 (adr (az h1) 1) 1 v28∧dQ h67 (adr (az h1) 1) 2 v29)∧
 (aM h67 h1 0 v18∧
 J11 (!e66) h67)))) h59))))) h57)))) h55))))) h42))))) h33))))) h31))) h20))) h10)) h2))
noncomputable def JY:Ann:=.node .nil (.node .nil (.node (.join [(49,.c .bool)] .nil .nil) (.node (.node .nil (.loop [(52,.c (.int .i64))] .nil)) .nil)))
theorem JM(x0:T6)(x1:T5){K:cW [.c .bool]→ad→Prop}{h0:ad}(h:CO x0 x1 K h0):HC PG jX [IB x0,RC x1] [.c .bool] K h0:=ed JY Tryz.func33 Tryz.call33 rfl rfl (by kernel_rfl) h
def Cv(x0:T6)(x1:T6)(K:(Bool)→ad→Prop)(h0:ad):Prop:=
 At (hnew h0 (gB x0) aI) (fun h1=>
 At (hnew h1 (gB x1) aI) (fun h2=>
 ∃v3,aM h2 h0 0 v3∧
 ∃v4,ae h2 h0 1 v4∧
 ∃v5,ae h2 h0 2 v5∧
 ∃v6,ae h2 h0 3 v6∧
 ∃v7,au h2 h0 4 v7∧
 ∃v8,au h2 h0 5 v8∧
 ∃v9,aM h2 h1 0 v9∧
 ∃v10,ae h2 h1 1 v10∧
 ∃v11,ae h2 h1 2 v11∧
 ∃v12,ae h2 h1 3 v12∧
 ∃v13,au h2 h1 4 v13∧
 ∃v14,au h2 h1 5 v14∧
 (px h2 [(v7,v13),(v8,v14)]∧
 K ((v3==v9)&&((((((v4==v10)&&((v5==v11)&&true)))&&((v6==v12)&&true)))&&((v7==v13)&&((v8==v14)&&true)))) h2)))
theorem Jw(x0:T6)(x1:T6){K:cW [.c .bool]→ad→Prop}{h0:ad}(h:Cv x0 x1 K h0):HC PG sX [IB x0,IB x1] [.c .bool] K h0:=ed .nil Tryz.func34 Tryz.call34 rfl rfl (by kernel_rfl) h
def Ew(x0:Int×Int×Int)(K:(Int×Int×Int)→ad→Prop)(h0:ad):Prop:=
 At (hnew h0 (yE x0) cC) (fun h1=>
 At (hnew h1 Re pX) (fun h2=>
 ∃v3,dQ h2 (adr (az h0) 0) 0 v3∧
 ∃v4,dQ h2 (adr (az h0) 0) 1 v4∧
 ∃v5,ae h2 h0 2 v5∧
 (cJ h2 h1 (Ri v3 v4 v5) (fun h6=>
 ∃v7,ae h6 h1 0 v7∧
 ∃v8,ae h6 h1 1 v8∧
 ∃v9,ae h6 h1 2 v9∧
 K (v7,v8,v9) h6))))
theorem Mf(x0:Int×Int×Int){K:cW BS→ad→Prop}{h0:ad}(h:Ew x0 K h0):HC PG r6 [HJ x0] BS K h0:=ed .nil Tryz.func35 Tryz.call35 rfl rfl (by kernel_rfl) h
def Es(x0:Int)(x1:Int×Int×Int)(K:((T5)×Int)→ad→Prop)(h0:ad):Prop:=
 At (hnew h0 (yE x1) pX) (fun h1=>
 At (hnew h1 Mw iq) (fun h2=>
 CondP (x0==(0:Int)) (
 ∃v3,ae h2 h0 0 v3∧
 ∃v4,ae h2 h0 1 v4∧
 ∃v5,ae h2 h0 2 v5∧
 (cJ h2 h1 [.int .i64 0,.int .u64 v3,.int .u64 v4,.int .u64 v5,.slice none 0 0] (fun h6=>
 ∃v7,aM h6 h1 0 v7∧
 ∃v8,ae h6 h1 1 v8∧
 ∃v9,ae h6 h1 2 v9∧
 ∃v10,ae h6 h1 3 v10∧
 ∃v11:SliceV,eP h6 h1 4 v11∧
 K ((v7,v8,v9,v10,v11),0) h6))) (
 CondP (x0==(1:Int)) (
 (cJ h2 h1 [.int .i64 1,.int .u64 0,.int .u64 0,.int .u64 0,.slice none 0 0] (fun h12=>
 ∃v13,aM h12 h1 0 v13∧
 ∃v14,ae h12 h1 1 v14∧
 ∃v15,ae h12 h1 2 v15∧
 ∃v16,ae h12 h1 3 v16∧
 ∃v17:SliceV,eP h12 h1 4 v17∧
 K ((v13,v14,v15,v16,v17),0) h12))) (
 (cJ h2 h1 Mw (fun h18=>
 ∃v19,aM h18 h1 0 v19∧
 ∃v20,ae h18 h1 1 v20∧
 ∃v21,ae h18 h1 2 v21∧
 ∃v22,ae h18 h1 3 v22∧
 ∃v23:SliceV,eP h18 h1 4 v23∧
 K ((v19,v20,v21,v22,v23),11) h18))))))
theorem Mb(x0:Int)(x1:Int×Int×Int){K:cW IV→ad→Prop}{h0:ad}(h:Es x0 x1 K h0):HC PG y6 [.int .i64 x0,HJ x1] IV K h0:=ed .nil Tryz.func36 Tryz.call36 rfl rfl (by kernel_rfl) h
def CN(x0:ByteArray)(x1:Int)(K:(ByteArray)→ad→Prop)(h0:ad):Prop:=
 (((0:Int)≤(if 30<(x0.size:Int)then 30 else(x0.size:Int))∧(if 30<(x0.size:Int)then 30 else(x0.size:Int))≤((x0.size:Nat):Int))∧
 Bd (x0.extract 0 ((if 30<(x0.size:Int)then 30 else(x0.size:Int)).toNat):ByteArray) (fun s1=>
 CondP (decide (x1>(0:Int))) (
 (((0:Int)≤x1∧x1≤x1∧x1≤9223372036854775807∧1*x1≤2^48)∧
 At (hnew h0 (dU x1.toNat [.int .u8 0]) cD) (fun h2=>
 ∃s3,SRow h2 (some (az h0)) x1.toNat (dR s3)∧
 (((s1.size+s3.size:Nat):Int)≤9223372036854775807∧
 K (s1++s3) h2)))) (
 K s1 h0)))
theorem JL(x0:ByteArray)(x1:Int){K:cW [.c .str]→ad→Prop}{h0:ad}(h:CN x0 x1 K h0):HC PG tq (Rh x0 x1) [.c .str] K h0:=ed .nil Tryz.func37 Tryz.call37 rfl rfl (by kernel_rfl) h
def CA(x0:T5)(x1:ByteArray×ByteArray)(K:((T5)×Int)→ad→Prop)(h0:ad):Prop:=
 At (hnew h0 (Ms x0) iq) (fun h1=>
 At (hnew h1 (sP x1) bS) (fun h2=>
 At (hnew h2 Mw iq) (fun h3=>
 ∃v4,av h3 h1 0 v4∧
 ∃v5,av h3 h1 1 v5∧
 HC PG uG (jx v4 v5) cy (fun(e6:Int) h7=>
 CondP (e6 !=(0:Int)) (
 ∃v8,aM h7 h0 0 v8∧
 ∃v9,ae h7 h0 1 v9∧
 ∃v10,ae h7 h0 2 v10∧
 ∃v11,ae h7 h0 3 v11∧
 ∃v12:SliceV,eP h7 h0 4 v12∧
 (cJ h7 h2 (QI v8 v9 v10 v11 v12) (fun h13=>
 ∃v14,aM h13 h2 0 v14∧
 ∃v15,ae h13 h2 1 v15∧
 ∃v16,ae h13 h2 2 v16∧
 ∃v17,ae h13 h2 3 v17∧
 ∃v18:SliceV,eP h13 h2 4 v18∧
 K ((v14,v15,v16,v17,v18),e6) h13))) (
 ∃v19:SliceV,eP h7 h0 4 v19∧
 ∃v20,av h7 h1 0 v20∧
 ∃v21,av h7 h1 1 v21∧
 HC PG y7 [.slice v19.a v19.len v19.cap,o9 v20 v21] [.c .slice] (fun(e22:SliceV) h23=>
 (dL h23 (adr (az h0) 4) (.slice e22.a e22.len e22.cap) (fun h24=>
 ∃v25,aM h24 h0 0 v25∧
 ∃v26,ae h24 h0 1 v26∧
 ∃v27,ae h24 h0 2 v27∧
 ∃v28,ae h24 h0 3 v28∧
 ∃v29:SliceV,eP h24 h0 4 v29∧
 (cJ h24 h2 (QI v25 v26 v27 v28 v29) (fun h30=>
 ∃v31,aM h30 h2 0 v31∧
 ∃v32,ae h30 h2 1 v32∧
 ∃v33,ae h30 h2 2 v33∧
 ∃v34,ae h30 h2 3 v34∧
 ∃v35:SliceV,eP h30 h2 4 v35∧
 K ((v31,v32,v33,v34,v35),0) h30))))) h7)) h3)))
theorem JB(x0:T5)(x1:ByteArray×ByteArray){K:cW IV→ad→Prop}{h0:ad}(h:CA x0 x1 K h0):HC PG wK [RC x0,Kt x1] IV K h0:=ed .nil Tryz.func40 Tryz.call40 rfl rfl (by kernel_rfl) h
def kN(x0:T6)(K:(SliceV)→ad→Prop)(h0:ad):Prop:=
 At (hnew h0 (gB x0) aI) (fun h1=>
 ∃v2,aM h1 h0 0 v2∧
 CondP (v2==(1:Int)) (
 ∃v3,au h1 h0 5 v3∧
 HC PG B4 [] LQ (fun(e4:ByteArray×ByteArray×Bool) h5=>
 (au h5 h0 5 v3∧
 HC PG sY [.pointer v3,OT e4] [.c .slice] (fun(e6:SliceV) h7=>
 K e6 h7) h5)) h1) (
 ∃v8,au h1 h0 4 v8∧
 HC PG rB [.pointer v8] [.c .slice] (fun(e9:SliceV) h10=>
 K e9 h10) h1))
theorem nL(x0:T6){K:cW [.c .slice]→ad→Prop}{h0:ad}(h:kN x0 K h0):HC PG fR [IB x0] [.c .slice] K h0:=ed .nil Tryz.func66 Tryz.call66 rfl rfl (by kernel_rfl) h
def yx(x0:ByteArray)(x1:ByteArray)(K:(Int)→ad→Prop)(h0:ad):Prop:=
 CondP (decide ((x0.size:Int)>(256:Int))) (
 K 2 h0) (
 CondP (decide ((x1.size:Int)>(4096:Int))) (
 K 3 h0) (
 K 0 h0))
theorem FQ(x0:ByteArray)(x1:ByteArray){K:cW cy→ad→Prop}{h0:ad}(h:yx x0 x1 K h0):HC PG tl (jx x0 x1) cy K h0:=ed .nil Tryz.func67 Tryz.call67 rfl rfl (by kernel_rfl) h
def Ai(x0:ByteArray)(x1:ByteArray)(K:(Int)→ad→Prop)(h0:ad):Prop:=
 CondP (decide ((x0.size:Int)>(256:Int))) (
 K 2 h0) (
 CondP (decide ((x1.size:Int)>(4096:Int))) (
 K 3 h0) (
 K 0 h0))
theorem Hr(x0:ByteArray)(x1:ByteArray){K:cW cy→ad→Prop}{h0:ad}(h:Ai x0 x1 K h0):HC PG uG (jx x0 x1) cy K h0:=ed .nil Tryz.func70 Tryz.call70 rfl rfl (by kernel_rfl) h
def sm(x0:T6)(K:(Int)→ad→Prop)(h0:ad):Prop:=
 At (hnew h0 (gB x0) aI) (fun h1=>
 ∃v2,aM h1 h0 0 v2∧
 K v2 h1)
theorem zl(x0:T6){K:cW cy→ad→Prop}{h0:ad}(h:sm x0 K h0):HC PG lL [IB x0] cy K h0:=ed .nil Tryz.func73 Tryz.call73 rfl rfl (by kernel_rfl) h
def qp(x0:T6)(K:(Int×Int×Int)→ad→Prop)(h0:ad):Prop:=
 At (hnew h0 (gB x0) aI) (fun h1=>
 At (hnew h1 Re cC) (fun h2=>
 ∃v3,dQ h2 (adr (az h0) 1) 0 v3∧
 ∃v4,dQ h2 (adr (az h0) 1) 1 v4∧
 ∃v5,dQ h2 (adr (az h0) 1) 2 v5∧
 (cJ h2 h1 (Ri v3 v4 v5) (fun h6=>
 ∃v7,ae h6 h1 0 v7∧
 ∃v8,ae h6 h1 1 v8∧
 ∃v9,ae h6 h1 2 v9∧
 K (v7,v8,v9) h6))))
theorem wW(x0:T6){K:cW BS→ad→Prop}{h0:ad}(h:qp x0 K h0):HC PG mR [IB x0] BS K h0:=ed .nil Tryz.func74 Tryz.call74 rfl rfl (by kernel_rfl) h
def Ae(x0:Option Addr)(K:(Int)→ad→Prop)(h0:ad):Prop:=
 Join (fun(t4:Int) h5=>
 HC PG kH [.pointer x0] [.c .slice] (fun(e6:SliceV) h7=>
 LoopP (fun I8 (t9:Int×Int) h10=>
 CondP (decide (t9.2<(e6.len:Int))) (
 (dd t9.2 e6.len∧∃a11,e6.a=some a11∧
 ∃v12,cf h10 a11 (t9.2.toNat*1) (.pointer v12)∧
 HC PG qS [.pointer v12] cy (fun(e13:Int) h14=>
 I8 (IntKind.wrap .i64 (t9.1+e13),IntKind.wrap .i64 (t9.2+1)) h14) h10)) (
 K t9.1 h10)) (t4,0) h7) h5) (fun J1=>
 HC PG jV [.pointer x0] BR (fun(e2:ByteArray×Bool) h3=>
 CondP e2.2 (
 J1 1 h3) (
 J1 0 h3)) h0)
noncomputable def HD:Ann:=.node .nil (.node .nil (.join [(3,.c (.int .i64))] .nil (.node (.node .nil (.loop [(3,.c (.int .i64)),(17,.c (.int .i64))] .nil)) .nil)))
theorem Hl(x0:Option Addr){K:cW cy→ad→Prop}{h0:ad}(h:Ae x0 K h0):HC PG qS [.pointer x0] cy K h0:=ed HD Tryz.func75 Tryz.call75 rfl rfl (by kernel_rfl) h
def rp(x0:Option Addr)(K:(Int)→ad→Prop)(h0:ad):Prop:=
 HC PG fg [.pointer x0] [.c .slice] (fun(e1:SliceV) h2=>
 HC PG jB [.pointer x0] [.c .slice] (fun(e3:SliceV) h4=>
 LoopP (fun I5 (t6:Int×Int) h7=>
 CondP (decide (t6.2<(e3.len:Int))) (
 (dd t6.2 e3.len∧∃a8,e3.a=some a8∧
 ∃v9,cf h7 a8 (t6.2.toNat*1) (.pointer v9)∧
 HC PG qV [.pointer v9] cy (fun(e10:Int) h11=>
 I5 (IntKind.wrap .i64 (t6.1+e10),IntKind.wrap .i64 (t6.2+1)) h11) h7)) (
 K t6.1 h7)) ((e1.len:Int),0) h4) h2) h0
noncomputable def HI:Ann:=.node .nil (.node .nil (.node (.node .nil (.loop [(3,.c (.int .i64)),(12,.c (.int .i64))] .nil)) .nil))
theorem uS(x0:Option Addr){K:cW cy→ad→Prop}{h0:ad}(h:rp x0 K h0):HC PG qV [.pointer x0] cy K h0:=ed HI Tryz.func76 Tryz.call76 rfl rfl (by kernel_rfl) h
def wb(x0:Option Addr)(K:(SliceV)→ad→Prop)(h0:ad):Prop:=
 CondP x0.isNone (
 K ⟨none,0,0⟩ h0) (
 HC PG jq [.pointer x0,.slice none 0 0] [.c .slice] (fun(e1:SliceV) h2=>
 K e1 h2) h0)
theorem Dk(x0:Option Addr){K:cW [.c .slice]→ad→Prop}{h0:ad}(h:wb x0 K h0):HC PG rE [.pointer x0] [.c .slice] K h0:=ed .nil Tryz.func79 Tryz.call79 rfl rfl (by kernel_rfl) h
def Cz(x0:Option Addr)(K:(SliceV)→ad→Prop)(h0:ad):Prop:=
 CondP x0.isNone (
 K ⟨none,0,0⟩ h0) (
 HC PG qR [.slice none 0 0,.pointer x0,.int .i64 0] [.c .slice] (fun(e1:SliceV) h2=>
 K e1 h2) h0)
theorem JA(x0:Option Addr){K:cW [.c .slice]→ad→Prop}{h0:ad}(h:Cz x0 K h0):HC PG wJ [.pointer x0] [.c .slice] K h0:=ed .nil Tryz.func80 Tryz.call80 rfl rfl (by kernel_rfl) h
def Ag(x0:Option Addr)(K:(SliceV)→ad→Prop)(h0:ad):Prop:=
 ∃a1,x0=some a1∧
 ∃v2,bC h0 a1 0 v2∧
 HC PG oE [.string v2] [.c .slice] (fun(e3:SliceV) h4=>
 Join (fun(t23:SliceV) h24=>
 Join (fun(t33:SliceV) h34=>
 ∃a35,x0=some a35∧
 ∃v36:SliceV,bG h34 a35 3 v36∧
 LoopP (fun I37 (t38:SliceV×Int) h39=>
 CondP (decide (t38.2<(v36.len:Int))) (
 Join (fun(t48:SliceV) h49=>
 I37 (t48,IntKind.wrap .i64 (t38.2+1)) h49) (fun J40=>
 (dd t38.2 v36.len∧∃a41,v36.a=some a41∧
 ∃v42,cf h39 a41 (t38.2.toNat*1) (.pointer v42)∧
 HC PG qT [.pointer v42] [.c .slice] (fun(e43:SliceV) h44=>
 ∃xs45,SRow h44 e43.a (e43.len*1) xs45∧
 AppP (some [.int .u8 0]) 1 1 cD t38.1.a t38.1.len t38.1.cap e43.len xs45 h44 (fun s46 h47=>
 J40 s46 h47)) h39))) (
 K t38.1 h39)) (t33,0) h34) (fun J25=>
 ∃a26,x0=some a26∧
 ∃v27:SliceV,bG h24 a26 3 v27∧
 HC PG qe [.int .i64 (v27.len:Int)] [.c .slice] (fun(e28:SliceV) h29=>
 ∃xs30,SRow h29 e28.a (e28.len*1) xs30∧
 AppP (some [.int .u8 0]) 1 1 cD t23.a t23.len t23.cap e28.len xs30 h29 (fun s31 h32=>
 J25 s31 h32)) h24)) (fun J5=>
 ∃a6,x0=some a6∧
 ∃v7,ge h4 a6 1 v7∧
 CondP v7 (
 ∃a8,x0=some a8∧
 ∃v9,bC h4 a8 2 v9∧
 At (hnew h4 [.int .u8 1] cD) (fun h10=>
 (bC h10 a8 2 v9∧
 ∃xs11,SRow h10 (some (az h4)) (1*1) xs11∧
 AppP (some [.int .u8 0]) 1 1 cD e3.a e3.len e3.cap 1 xs11 h10 (fun s12 h13=>
 (bC h13 a8 2 v9∧
 HC PG oE [.string v9] [.c .slice] (fun(e14:SliceV) h15=>
 ∃xs16,SRow h15 e14.a (e14.len*1) xs16∧
 AppP (some [.int .u8 0]) 1 1 cD s12.a s12.len s12.cap e14.len xs16 h15 (fun s17 h18=>
 J5 s17 h18)) h13))))) (
 At (hnew h4 [.int .u8 0] cD) (fun h19=>
 ∃xs20,SRow h19 (some (az h4)) (1*1) xs20∧
 AppP (some [.int .u8 0]) 1 1 cD e3.a e3.len e3.cap 1 xs20 h19 (fun s21 h22=>
 J5 s21 h22))))) h0
noncomputable def HF:Ann:=.node .nil (.node .nil (.join [(3,.c .slice)] .nil (.join [(3,.c .slice)] .nil (.node (.node .nil (.loop [(3,.c .slice),(40,.c (.int .i64))] (.node .nil (.node .nil (.join [(3,.c .slice)] .nil .nil))))) .nil))))
theorem Hn(x0:Option Addr){K:cW [.c .slice]→ad→Prop}{h0:ad}(h:Ag x0 K h0):HC PG qT [.pointer x0] [.c .slice] K h0:=ed HF Tryz.func81 Tryz.call81 rfl rfl (by kernel_rfl) h
def Hx(x0:SliceV)(K:(Option Addr)→ad→Prop)(h0:ad):Prop:=
 At (hnew h0 QG mO) (fun h1=>
 Join (fun(t14:SliceV) h15=>
 HC PG p7 [.slice t14.a t14.len t14.cap] [.c .slice] (fun(e16:SliceV) h17=>
 ∃a18,some (az h0)=some a18∧
 (dL h17 (adr a18 3) (.slice e16.a e16.len e16.cap) (fun h19=>
 K (some (az h0)) h19))) h15) (fun J2=>
 Join (fun(t6:Bool) h7=>
 CondP t6 (
 (dd 0 x0.len∧∃a8,x0.a=some a8∧
 ∃v9,bC h7 (adr a8 ((0:Int).toNat*2)) 1 v9∧
 ∃a10,some (az h0)=some a10∧
 (dL h7 (adr a10 1) (.bool true) (fun h11=>
 ∃a12,some (az h0)=some a12∧
 (dL h11 (adr a12 2) (.string v9) (fun h13=>
 (((0:Int)≤(1:Int)∧(1:Int)≤((x0.len:Nat):Int))∧
 J2 ⟨aY x0.a ((1:Int).toNat) x0.cap 2,x0.len-((1:Int).toNat),x0.cap-((1:Int).toNat)⟩ h13))))))) (
 J2 x0 h7)) (fun J3=>
 CondP (decide ((x0.len:Int)>(0:Int))) (
 (dd 0 x0.len∧∃a4,x0.a=some a4∧
 ∃v5,bC h1 (adr a4 ((0:Int).toNat*2)) 0 v5∧
 J3 (v5.toList==(⟨#[]⟩:ByteArray).toList) h1)) (
 J3 false h1))))
noncomputable def N9:Ann:=.node .nil (.node .nil (.join [(0,.c .slice)] (.join [(15,.c .bool)] .nil .nil) .nil))
theorem N5(x0:SliceV){K:cW [.c .ptr]→ad→Prop}{h0:ad}(h:Hx x0 K h0):HC PG B5 [.slice x0.a x0.len x0.cap] [.c .ptr] K h0:=ed N9 Tryz.func82 Tryz.call82 rfl rfl (by kernel_rfl) h
def CD(x0:Option Addr)(x1:Int)(K:(SliceV)→ad→Prop)(h0:ad):Prop:=
 ∃a1,x0=some a1∧
 ∃v2,ge h0 a1 0 v2∧
 CondP v2 (
 ∃a3,x0=some a3∧
 ∃v4:SliceV,bG h0 a3 1 v4∧
 ∃a5,x0=some a5∧
 ∃v6:SliceV,bG h0 a5 1 v6∧
 ((At (hnew h0 [.int .u8 1] cD) (fun h7=>
 (bG h7 a5 1 v6∧
 (bG h7 a3 1 v4∧
 HC PG qe [.int .i64 (v4.len:Int)] [.c .slice] (fun(e8:SliceV) h9=>
 (bG h9 a5 1 v6∧
 (bG h9 a3 1 v4∧
 ∃xs10,SRow h9 e8.a (e8.len*1) xs10∧
 AppP (some [.int .u8 0]) 1 1 cD (some (az h0)) 1 1 e8.len xs10 h9 (fun s11 h12=>
 (bG h12 a5 1 v6∧
 (bG h12 a3 1 v4∧
 HC PG pj [.slice v6.a v6.len v6.cap] [.c .slice] (fun(e13:SliceV) h14=>
 (bG h14 a3 1 v4∧
 ∃xs15,SRow h14 e13.a (e13.len*1) xs15∧
 AppP (some [.int .u8 0]) 1 1 cD s11.a s11.len s11.cap e13.len xs15 h14 (fun s16 h17=>
 (bG h17 a3 1 v4∧
 K s16 h17)))) h12)))))) h7))))∧
 HC PG qe [.int .i64 (v4.len:Int)] [.c .slice] (fun(e18:SliceV) h19=>
 (bG h19 a5 1 v6∧
 (bG h19 a3 1 v4∧
 At (hnew h19 [.int .u8 1] cD) (fun h20=>
 (bG h20 a5 1 v6∧
 (bG h20 a3 1 v4∧
 ∃xs21,SRow h20 e18.a (e18.len*1) xs21∧
 AppP (some [.int .u8 0]) 1 1 cD (some (az h19)) 1 1 e18.len xs21 h20 (fun s22 h23=>
 (bG h23 a5 1 v6∧
 (bG h23 a3 1 v4∧
 HC PG pj [.slice v6.a v6.len v6.cap] [.c .slice] (fun(e24:SliceV) h25=>
 (bG h25 a3 1 v4∧
 ∃xs26,SRow h25 e24.a (e24.len*1) xs26∧
 AppP (some [.int .u8 0]) 1 1 cD s22.a s22.len s22.cap e24.len xs26 h25 (fun s27 h28=>
 (bG h28 a3 1 v4∧
 K s27 h28)))) h23))))))))) h0)) (
 LoopP (fun I29 (t30:Int×Int×SliceV×SliceV×Int×Int) h31=>
 CondP (decide (t30.2.2.2.2.2<(32:Int))) (
 Join (fun(t42:Int×SliceV) h43=>
 Join (fun(t54:Int×SliceV) h55=>
 I29 (t42.1,t54.1,t42.2,t54.2,IntKind.wrap .u32 (t30.2.2.2.2.1*2),IntKind.wrap .i64 (t30.2.2.2.2.2+1)) h55) (fun J44=>
 ∃a45,x0=some a45∧
 (dd t30.2.2.2.2.2 32∧
 ∃v46,cf h43 (adr a45 2) (t30.2.2.2.2.2.toNat*1) (.int .i64 v46)∧
 CondP (v46==(2:Int)) (
 CondP (decide (x1<(13:Int))) (
 ∃a47,x0=some a47∧
 (dd t30.2.2.2.2.2 32∧
 ∃v48,cf h43 (adr a47 98) (t30.2.2.2.2.2.toNat*1) (.pointer v48)∧
 HC PG xQ (xo v48 (IntKind.wrap .i64 (x1+1))) [.c .slice] (fun(e49:SliceV) h50=>
 ∃xs51,SRow h50 e49.a (e49.len*1) xs51∧
 AppP (some [.int .u8 0]) 1 1 cD t30.2.2.2.1.a t30.2.2.2.1.len t30.2.2.2.1.cap e49.len xs51 h50 (fun s52 h53=>
 J44 (IntKind.wrap .u32 (t30.2.1+t30.2.2.2.2.1),s52) h53)) h43)) (
 J44 (IntKind.wrap .u32 (t30.2.1+t30.2.2.2.2.1),t30.2.2.2.1) h43)) (
 J44 (t30.2.1,t30.2.2.2.1) h43)))) (fun J32=>
 ∃a33,x0=some a33∧
 (dd t30.2.2.2.2.2 32∧
 ∃v34,cf h31 (adr a33 2) (t30.2.2.2.2.2.toNat*1) (.int .i64 v34)∧
 CondP (v34==(1:Int)) (
 ∃a35,x0=some a35∧
 (dd t30.2.2.2.2.2 32∧
 ∃v36,bC h31 (adr (adr a35 34) (t30.2.2.2.2.2.toNat*2)) 0 v36∧
 ∃v37,bC h31 (adr (adr a35 34) (t30.2.2.2.2.2.toNat*2)) 1 v37∧
 At (hnew h31 (jx v36 v37) bS) (fun h38=>
 ∃xs39,SRow h38 (some (az h31)) (1*2) xs39∧
 AppP (some kU) 2 32 bS t30.2.2.1.a t30.2.2.1.len t30.2.2.1.cap 1 xs39 h38 (fun s40 h41=>
 J32 (IntKind.wrap .u32 (t30.1+t30.2.2.2.2.1),s40) h41)))) (
 J32 (t30.1,t30.2.2.1) h31)))) (
 Join (fun(t63:SliceV) h64=>
 Join (fun(t71:SliceV) h72=>
 Join (fun(t79:SliceV) h80=>
 ∃xs81,SRow h80 t30.2.2.2.1.a (t30.2.2.2.1.len*1) xs81∧
 AppP (some [.int .u8 0]) 1 1 cD t79.a t79.len t79.cap t30.2.2.2.1.len xs81 h80 (fun s82 h83=>
 K s82 h83)) (fun J73=>
 HC PG pj [.slice t30.2.2.1.a t30.2.2.1.len t30.2.2.1.cap] [.c .slice] (fun(e74:SliceV) h75=>
 ∃xs76,SRow h75 e74.a (e74.len*1) xs76∧
 AppP (some [.int .u8 0]) 1 1 cD t71.a t71.len t71.cap e74.len xs76 h75 (fun s77 h78=>
 J73 s77 h78)) h72)) (fun J65=>
 HC PG tg [.int .u32 t30.2.1] [.c .slice] (fun(e66:SliceV) h67=>
 ∃xs68,SRow h67 e66.a (e66.len*1) xs68∧
 AppP (some [.int .u8 0]) 1 1 cD t63.a t63.len t63.cap e66.len xs68 h67 (fun s69 h70=>
 J65 s69 h70)) h64)) (fun J56=>
 At (hnew h31 [.int .u8 0] cD) (fun h57=>
 HC PG tg [.int .u32 t30.1] [.c .slice] (fun(e58:SliceV) h59=>
 ∃xs60,SRow h59 e58.a (e58.len*1) xs60∧
 AppP (some [.int .u8 0]) 1 1 cD (some (az h31)) 1 1 e58.len xs60 h59 (fun s61 h62=>
 J56 s61 h62)) h57)))) (0,0,⟨none,0,0⟩,⟨none,0,0⟩,1,0) h0)
noncomputable def Oa:Ann:=.node .nil (.node .nil (.node .nil (.node .nil (.node .nil (.node .nil (.node (.node .nil (.loop [(5,.c (.int .u32)),(6,.c (.int .u32)),(7,.c .slice),(8,.c .slice),(9,.c (.int .u32)),(10,.c (.int .i64))] (.node .nil (.node (.join [(5,.c (.int .u32)),(7,.c .slice)] .nil (.join [(6,.c (.int .u32)),(8,.c .slice)] .nil .nil)) .nil)))) (.join [(11,.c .slice)] .nil (.join [(11,.c .slice)] .nil (.join [(11,.c .slice)] .nil .nil)))))))))
theorem Hp(x0:Option Addr)(x1:Int){K:cW [.c .slice]→ad→Prop}{h0:ad}(h:CD x0 x1 K h0):HC PG xQ (xo x0 x1) [.c .slice] K h0:=ed Oa Tryz.func83 Tryz.call83 rfl rfl (by kernel_rfl) h
def Hy(x0:Int×Int×Int)(x1:SliceV)(x2:Int)(K:(Option Addr)→ad→Prop)(h0:ad):Prop:=
 At (hnew h0 (yE x0) pX) (fun h1=>
 LoopP (fun I2 (t3:SliceV×Int) h4=>
 CondP (decide (t3.2<(x1.len:Int))) (
 Join (fun(t21:SliceV) h22=>
 I2 (t21,IntKind.wrap .i64 (t3.2+1)) h22) (fun J5=>
 (dd t3.2 x1.len∧∃a6,x1.a=some a6∧
 ∃v7,bC h4 (adr a6 (t3.2.toNat*2)) 0 v7∧
 ∃v8,bC h4 (adr a6 (t3.2.toNat*2)) 1 v8∧
 nv h4 kU bS (jx v7 v8) (fun h10=>
 ∃v11,ae h10 h0 0 v11∧
 ∃v12,ae h10 h0 1 v12∧
 ∃v13,ae h10 h0 2 v13∧
 ∃v14,av h10 h4 0 v14∧
 HC PG wM [pW v11 v12 v13,.string v14] ii (fun(e15:Int) h16=>
 At (hnew h16 [.int .u64 e15] nq) (fun h17=>
 ∃xs18,SRow h17 (some (az h16)) (1*1) xs18∧
 AppP (some [.int .u64 0]) 1 8 nq t3.1.a t3.1.len t3.1.cap 1 xs18 h17 (fun s19 h20=>
 J5 s19 h20))) h10)))) (
 HC PG xR (Lf x1 t3.1 x2) [.c .ptr] (fun(e23:Option Addr) h24=>
 K e23 h24) h4)) (⟨none,0,0⟩,0) h1)
noncomputable def Oc:Ann:=.node .nil (.node .nil (.node (.node .nil (.loop [(7,.c .slice),(12,.c (.int .i64))] (.node .nil (.node .nil (.join [(7,.c .slice)] .nil .nil))))) .nil))
theorem N6(x0:Int×Int×Int)(x1:SliceV)(x2:Int){K:cW [.c .ptr]→ad→Prop}{h0:ad}(h:Hy x0 x1 x2 K h0):HC PG B6 [HJ x0,.slice x1.a x1.len x1.cap,.int .i64 x2] [.c .ptr] K h0:=ed Oc Tryz.func84 Tryz.call84 rfl rfl (by kernel_rfl) h
def wd(x0:Option Addr)(K:(Bool)→ad→Prop)(h0:ad):Prop:=
 CondP (!(x0.isNone)) (
 ∃a1,x0=some a1∧
 ∃v2,bC h0 a1 0 v2∧
 CondP (v2.toList==(⟨#[]⟩:ByteArray).toList) (
 HC PG jU [.pointer x0] [.c .bool] (fun(e3:Bool) h4=>
 CondP e3 (
 ∃a5,x0=some a5∧
 ∃v6:SliceV,bG h4 a5 3 v6∧
 HC PG cI [.slice v6.a v6.len v6.cap,.func (.func tM) #[] #[]] [.c .bool] (fun(e7:Bool) h8=>
 K (!e7) h8) h4) (
 K false h4)) h0) (
 K false h0)) (
 K false h0)
theorem Dm(x0:Option Addr){K:cW [.c .bool]→ad→Prop}{h0:ad}(h:wd x0 K h0):HC PG rF [.pointer x0] [.c .bool] K h0:=ed .nil Tryz.func85 Tryz.call85 rfl rfl (by kernel_rfl) h
def rN(x0:Int×Int×Int)(x1:Option Addr)(K:(Bool)→ad→Prop)(h0:ad):Prop:=
 At (hnew h0 (yE x0) cC) (fun h1=>
 CondP x1.isNone (
 K false h1) (
 ∃v2,ae h1 h0 0 v2∧
 ∃v3,ae h1 h0 1 v3∧
 ∃v4,ae h1 h0 2 v4∧
 HC PG mu [pW v2 v3 v4,.pointer x1,.slice none 0 0] jz (fun(e5:Int×Bool) h6=>
 K e5.2 h6) h1))
theorem vU(x0:Int×Int×Int)(x1:Option Addr){K:cW [.c .bool]→ad→Prop}{h0:ad}(h:rN x0 x1 K h0):HC PG vP [HJ x0,.pointer x1] [.c .bool] K h0:=ed .nil Tryz.func86 Tryz.call86 rfl rfl (by kernel_rfl) h
def rO(K:(Option Addr)→ad→Prop)(h0:ad):Prop:=
 HC PG nG [] [.c .ptr] (fun(e1:Option Addr) h2=>
 K e1 h2) h0
theorem vV{K:cW [.c .ptr]→ad→Prop}{h0:ad}(h:rO K h0):HC PG my [] [.c .ptr] K h0:=ed .nil Tryz.func87 Tryz.call87 rfl rfl (by kernel_rfl) h
def wc(K:(Option Addr)→ad→Prop)(h0:ad):Prop:=
 At (hnew h0 F1 bU) (fun h1=>
 K (some (az h0)) h1)
theorem Dl{K:cW [.c .ptr]→ad→Prop}{h0:ad}(h:wc K h0):HC PG oX [] [.c .ptr] K h0:=ed .nil Tryz.func88 Tryz.call88 rfl rfl (by kernel_rfl) h
def Ad(x0:Option Addr)(x1:Option Addr)(x2:ByteArray×ByteArray)(K:((Option Addr)×Bool)→ad→Prop)(h0:ad):Prop:=
 At (hnew h0 (sP x2) ag) (fun h1=>
 ∃v2,av h1 h0 0 v2∧
 ∃v3,av h1 h0 1 v3∧
 HC PG tc [.pointer x1] [.c .ptr] (fun(e4:Option Addr) h5=>
 (av h5 h0 1 v3∧
 (av h5 h0 0 v2∧
 HC PG lO (MG e4 x0 v2 v3) qP (fun(e6:(Option Addr)×Bool×Bool) h7=>
 K (e6.1,e6.2.1) h7) h5))) h1)
theorem Hk(x0:Option Addr)(x1:Option Addr)(x2:ByteArray×ByteArray){K:cW uw→ad→Prop}{h0:ad}(h:Ad x0 x1 x2 K h0):HC PG uE [.pointer x0,.pointer x1,Kt x2] uw K h0:=ed .nil Tryz.func89 Tryz.call89 rfl rfl (by kernel_rfl) h
def Am(x0:Int×Int×Int)(x1:Option Addr)(x2:Option Addr)(x3:ByteArray×ByteArray)(K:((Option Addr)×Bool)→ad→Prop)(h0:ad):Prop:=
 At (hnew h0 (yE x0) cC) (fun h1=>
 At (hnew h1 (sP x3) ag) (fun h2=>
 ∃v3,ae h2 h0 0 v3∧
 ∃v4,ae h2 h0 1 v4∧
 ∃v5,ae h2 h0 2 v5∧
 ∃v6,av h2 h1 0 v6∧
 ∃v7,ae h2 h0 0 v7∧
 ∃v8,ae h2 h0 1 v8∧
 ∃v9,ae h2 h0 2 v9∧
 ∃v10,av h2 h1 0 v10∧
 ((HC PG ff [pW v7 v8 v9,.string v10] ii (fun(e11:Int) h12=>
 (av h12 h1 0 v6∧
 ((ae h12 h0 0 v3∧ae h12 h0 1 v4∧ae h12 h0 2 v5)∧
 At (hnew h12 PP cO) (fun h13=>
 (av h13 h1 0 v6∧
 ((ae h13 h0 0 v3∧ae h13 h0 1 v4∧ae h13 h0 2 v5)∧
 (cJ h13 h12 (PV v3 v4 v5 x1 v6 e11) (fun h14=>
 ∃v15,ae h14 h12 0 v15∧
 ∃v16,ae h14 h12 1 v16∧
 ∃v17,ae h14 h12 2 v17∧
 ∃v18,au h14 h12 3 v18∧
 ∃v19,av h14 h12 4 v19∧
 ∃v20,ae h14 h12 5 v20∧
 ∃v21,av h14 h1 0 v21∧
 ∃v22,av h14 h1 1 v22∧
 HC PG nI [.pointer x2] [.c .ptr] (fun(e23:Option Addr) h24=>
 ((av h24 h1 0 v21∧av h24 h1 1 v22)∧
 ((ae h24 h12 0 v15∧ae h24 h12 1 v16∧ae h24 h12 2 v17∧au h24 h12 3 v18∧av h24 h12 4 v19∧ae h24 h12 5 v20)∧
 HC PG ik [CX v15 v16 v17 v18 v19 v20,.pointer e23,o9 v21 v22,.int .i64 0] qP (fun(e25:(Option Addr)×Bool×Bool) h26=>
 K (e25.1,e25.2.1) h26) h24))) h14)))))))) h2)∧
 At (hnew h2 PP cO) (fun h27=>
 (av h27 h1 0 v10∧
 ((ae h27 h0 0 v7∧ae h27 h0 1 v8∧ae h27 h0 2 v9)∧
 (av h27 h1 0 v6∧
 ((ae h27 h0 0 v3∧ae h27 h0 1 v4∧ae h27 h0 2 v5)∧
 HC PG ff [pW v7 v8 v9,.string v10] ii (fun(e28:Int) h29=>
 (av h29 h1 0 v6∧
 ((ae h29 h0 0 v3∧ae h29 h0 1 v4∧ae h29 h0 2 v5)∧
 (cJ h29 h2 (PV v3 v4 v5 x1 v6 e28) (fun h30=>
 ∃v31,ae h30 h2 0 v31∧
 ∃v32,ae h30 h2 1 v32∧
 ∃v33,ae h30 h2 2 v33∧
 ∃v34,au h30 h2 3 v34∧
 ∃v35,av h30 h2 4 v35∧
 ∃v36,ae h30 h2 5 v36∧
 ∃v37,av h30 h1 0 v37∧
 ∃v38,av h30 h1 1 v38∧
 HC PG nI [.pointer x2] [.c .ptr] (fun(e39:Option Addr) h40=>
 ((av h40 h1 0 v37∧av h40 h1 1 v38)∧
 ((ae h40 h2 0 v31∧ae h40 h2 1 v32∧ae h40 h2 2 v33∧au h40 h2 3 v34∧av h40 h2 4 v35∧ae h40 h2 5 v36)∧
 HC PG ik [CX v31 v32 v33 v34 v35 v36,.pointer e39,o9 v37 v38,.int .i64 0] qP (fun(e41:(Option Addr)×Bool×Bool) h42=>
 K (e41.1,e41.2.1) h42) h40))) h30))))) h27))))))))
noncomputable def HH:Ann:=.node .nil (.node (.draw (dTr 0 7 (.all (.pick 7 (.take 8 (.all (.lastT 9 (.all (.lastT 10 (.done)))))) (.last 9 (.all (.lastT 7 (.take 8 (.all (.lastT 10 (.done))))))))))) (.node (.draw (dTk [0,1,3] (.all (.lastT 2 (.all (.lastT 4 (dTr 5 7 (.done)))))))) .nil))
theorem Hw(x0:Int×Int×Int)(x1:Option Addr)(x2:Option Addr)(x3:ByteArray×ByteArray){K:cW uw→ad→Prop}{h0:ad}(h:Am x0 x1 x2 x3 K h0):HC PG uI [HJ x0,.pointer x1,.pointer x2,Kt x3] uw K h0:=ed HH Tryz.func90 Tryz.call90 rfl rfl (by kernel_rfl) h
def CI(x0:SliceV)(x1:ByteArray)(K:(SliceV)→ad→Prop)(h0:ad):Prop:=
 LoopP (fun I1 (t2:SliceV×Int) h3=>
 CondP (decide (t2.2<(x0.len:Int))) (
 Join (fun(t17:SliceV) h18=>
 I1 (t17,IntKind.wrap .i64 (t2.2+1)) h18) (fun J4=>
 (dd t2.2 x0.len∧∃a5,x0.a=some a5∧
 ∃v6,bC h3 (adr a5 (t2.2.toNat*2)) 0 v6∧
 ∃v7,bC h3 (adr a5 (t2.2.toNat*2)) 1 v7∧
 nv h3 kU bS (jx v6 v7) (fun h9=>
 ∃v10,av h9 h3 0 v10∧
 CondP (!(v10.toList==x1.toList)) (
 ∃v11,av h9 h3 0 v11∧
 ∃v12,av h9 h3 1 v12∧
 At (hnew h9 (jx v11 v12) bS) (fun h13=>
 ∃xs14,SRow h13 (some (az h9)) (1*2) xs14∧
 AppP (some kU) 2 32 bS t2.1.a t2.1.len t2.1.cap 1 xs14 h13 (fun s15 h16=>
 J4 s15 h16))) (
 J4 t2.1 h9))))) (
 K t2.1 h3)) (⟨none,0,0⟩,0) h0
noncomputable def JU:Ann:=.node .nil (.node .nil (.node (.node .nil (.loop [(5,.c .slice),(10,.c (.int .i64))] (.node .nil (.node .nil (.join [(5,.c .slice)] .nil .nil))))) .nil))
theorem JH(x0:SliceV)(x1:ByteArray){K:cW [.c .slice]→ad→Prop}{h0:ad}(h:CI x0 x1 K h0):HC PG wO (wi x0 x1) [.c .slice] K h0:=ed JU Tryz.func93 Tryz.call93 rfl rfl (by kernel_rfl) h
def Eu(x0:SliceV)(x1:ByteArray×ByteArray)(K:(SliceV)→ad→Prop)(h0:ad):Prop:=
 At (hnew h0 (sP x1) bS) (fun h1=>
 ∃v2,av h1 h0 0 v2∧
 HC PG wO (wi x0 v2) [.c .slice] (fun(e3:SliceV) h4=>
 LoopP (fun I5 (t6:SliceV×Bool×Int) h7=>
 CondP (decide (t6.2.2<(e3.len:Int))) (
 Join (fun(t36:SliceV×Bool) h37=>
 I5 (t36.1,t36.2,IntKind.wrap .i64 (t6.2.2+1)) h37) (fun J8=>
 (dd t6.2.2 e3.len∧∃a9,e3.a=some a9∧
 ∃v10,bC h7 (adr a9 (t6.2.2.toNat*2)) 0 v10∧
 ∃v11,bC h7 (adr a9 (t6.2.2.toNat*2)) 1 v11∧
 nv h7 kU bS (jx v10 v11) (fun h13=>
 Join (fun(t28:SliceV×Bool) h29=>
 ∃v30,av h29 h7 0 v30∧
 ∃v31,av h29 h7 1 v31∧
 At (hnew h29 (jx v30 v31) bS) (fun h32=>
 ∃xs33,SRow h32 (some (az h29)) (1*2) xs33∧
 AppP (some kU) 2 32 bS t28.1.a t28.1.len t28.1.cap 1 xs33 h32 (fun s34 h35=>
 J8 (s34,t28.2) h35))) (fun J14=>
 Join (fun(t20:Bool) h21=>
 CondP t20 (
 ∃v22,av h21 h0 0 v22∧
 ∃v23,av h21 h0 1 v23∧
 At (hnew h21 (jx v22 v23) bS) (fun h24=>
 ∃xs25,SRow h24 (some (az h21)) (1*2) xs25∧
 AppP (some kU) 2 32 bS t6.1.a t6.1.len t6.1.cap 1 xs25 h24 (fun s26 h27=>
 J14 (s26,true) h27))) (
 J14 (t6.1,t6.2.1) h21)) (fun J15=>
 CondP (!t6.2.1) (
 ∃v16,av h13 h0 0 v16∧
 ∃v17,av h13 h7 0 v17∧
 HC PG wN (jx v16 v17) [.c .bool] (fun(e18:Bool) h19=>
 J15 e18 h19) h13) (
 J15 false h13))))))) (
 CondP (!t6.2.1) (
 ∃v38,av h7 h0 0 v38∧
 ∃v39,av h7 h0 1 v39∧
 At (hnew h7 (jx v38 v39) bS) (fun h40=>
 ∃xs41,SRow h40 (some (az h7)) (1*2) xs41∧
 AppP (some kU) 2 32 bS t6.1.a t6.1.len t6.1.cap 1 xs41 h40 (fun s42 h43=>
 K s42 h43))) (
 K t6.1 h7))) (⟨none,0,0⟩,false,0) h4) h1)
noncomputable def Mi:Ann:=.node .nil (.node .nil (.node .nil (.node (.node .nil (.loop [(5,.c .slice),(6,.c .bool),(14,.c (.int .i64))] (.node .nil (.node .nil (.join [(5,.c .slice),(6,.c .bool)] (.node .nil (.join [(5,.c .slice),(6,.c .bool)] (.join [(26,.c .bool)] .nil .nil) .nil)) .nil))))) .nil)))
theorem Md(x0:SliceV)(x1:ByteArray×ByteArray){K:cW [.c .slice]→ad→Prop}{h0:ad}(h:Eu x0 x1 K h0):HC PG y7 [.slice x0.a x0.len x0.cap,Kt x1] [.c .slice] K h0:=ed Mi Tryz.func94 Tryz.call94 rfl rfl (by kernel_rfl) h
def CH(x0:ByteArray)(x1:ByteArray)(K:(Bool)→ad→Prop)(h0:ad):Prop:=
 LoopP (fun I1 (t2:Int) h3=>
 Join (fun(t5:Bool) h6=>
 CondP t5 (
 ∃b7,(0:Int)≤t2∧x0[t2.toNat]? =some b7∧
 ∃b8,(0:Int)≤t2∧x1[t2.toNat]? =some b8∧
 CondP ((b7.toNat:Int) !=(b8.toNat:Int)) (
 ∃b9,(0:Int)≤t2∧x0[t2.toNat]? =some b9∧
 ∃b10,(0:Int)≤t2∧x1[t2.toNat]? =some b10∧
 K (decide ((b9.toNat:Int)<(b10.toNat:Int))) h6) (
 I1 (IntKind.wrap .i64 (t2+1)) h6)) (
 K (decide ((x0.size:Int)<(x1.size:Int))) h6)) (fun J4=>
 CondP (decide (t2<(x0.size:Int))) (
 J4 (decide (t2<(x1.size:Int))) h3) (
 J4 false h3))) 0 h0
noncomputable def JT:Ann:=.node .nil (.node (.node .nil (.loop [(5,.c (.int .i64))] (.node (.join [(15,.c .bool)] .nil .nil) .nil))) .nil)
theorem JG(x0:ByteArray)(x1:ByteArray){K:cW [.c .bool]→ad→Prop}{h0:ad}(h:CH x0 x1 K h0):HC PG wN (jx x0 x1) [.c .bool] K h0:=ed JT Tryz.func104 Tryz.call104 rfl rfl (by kernel_rfl) h
def rk(x0:ByteArray)(x1:ByteArray)(K:(Int)→ad→Prop)(h0:ad):Prop:=
 HC PG mJ [.string x0] [.c .bool] (fun(e1:Bool) h2=>
 HC PG mJ [.string x1] [.c .bool] (fun(e3:Bool) h4=>
 CondP e1 (
 CondP e3 (
 K 0 h4) (
 K (-1) h4)) (
 CondP e3 (
 K 1 h4) (
 CondP (Op.bytesLess x0.toList x1.toList) (
 K (-1) h4) (
 CondP (!(Op.bytesLess x0.toList x1.toList||x0.toList==x1.toList)) (
 K 1 h4) (
 K 0 h4))))) h2) h0
theorem yk(x0:ByteArray)(x1:ByteArray){K:cW cy→ad→Prop}{h0:ad}(h:rk x0 x1 K h0):HC PG nH (jx x0 x1) cy K h0:=ed .nil Tryz.func110 Tryz.call110 rfl rfl (by kernel_rfl) h
def yn(x0:Option Addr)(x1:ByteArray×ByteArray×Bool)(K:(SliceV)→ad→Prop)(h0:ad):Prop:=
 At (hnew h0 (Oj x1) na) (fun h1=>
 ∃v2,av h1 h0 0 v2∧
 ∃v3,av h1 h0 1 v3∧
 ∃v4,oz h1 h0 2 v4∧
 HC PG uD [.pointer x0,Px v2 v3 v4,.bool false] [.c .raw] (fun(e5:Value) h6=>
 HC PG fT [e5] [.c .slice] (fun(e7:SliceV) h8=>
 K e7 h8) h6) h1)
theorem FH(x0:Option Addr)(x1:ByteArray×ByteArray×Bool){K:cW [.c .slice]→ad→Prop}{h0:ad}(h:yn x0 x1 K h0):HC PG sY [.pointer x0,OT x1] [.c .slice] K h0:=ed .nil Tryz.func120 Tryz.call120 rfl rfl (by kernel_rfl) h
def Cx(K:(ByteArray×ByteArray×Bool)→ad→Prop)(h0:ad):Prop:=
 nv h0 zl7 na (vl7 (⟨#[]⟩:ByteArray) (⟨#[]⟩:ByteArray) true) (fun h2=>
 ∃v3,av h2 h0 0 v3∧
 ∃v4,av h2 h0 1 v4∧
 ∃v5,oz h2 h0 2 v5∧
 K (v3,v4,v5) h2)
theorem Jy{K:cW LQ→ad→Prop}{h0:ad}(h:Cx K h0):HC PG B4 [] LQ K h0:=ed .nil Tryz.func121 Tryz.call121 rfl rfl (by kernel_rfl) h
def vW(x0:Option Addr)(K:(SliceV)→ad→Prop)(h0:ad):Prop:=
 HC PG wH [.pointer x0] [.c .raw] (fun(e1:Value) h2=>
 HC PG fT [e1] [.c .slice] (fun(e3:SliceV) h4=>
 HC PG oY [.slice e3.a e3.len e3.cap] [.c .slice] (fun(e5:SliceV) h6=>
 K e5 h6) h4) h2) h0
theorem Df(x0:Option Addr){K:cW [.c .slice]→ad→Prop}{h0:ad}(h:vW x0 K h0):HC PG rB [.pointer x0] [.c .slice] K h0:=ed .nil Tryz.func122 Tryz.call122 rfl rfl (by kernel_rfl) h
def we(x0:SliceV)(K:(SliceV)→ad→Prop)(h0:ad):Prop:=
 HC PG cZ [.slice x0.a x0.len x0.cap] [.c .slice] (fun(e1:SliceV) h2=>
 HC PG cP [.slice e1.a e1.len e1.cap,.func (.func pC) #[] #[]] [] (fun(e3:Unit) h4=>
 LoopP (fun I5 (t6:Int×Int) h7=>
 CondP (decide (t6.2<(e1.len:Int))) (
 Join (fun(t24:Int) h25=>
 I5 (t24,IntKind.wrap .i64 (t6.2+1)) h25) (fun J8=>
 (dd t6.2 e1.len∧∃a9,e1.a=some a9∧
 ∃v10,bC h7 (adr a9 (t6.2.toNat*2)) 0 v10∧
 ∃v11,bC h7 (adr a9 (t6.2.toNat*2)) 1 v11∧
 nv h7 kU ag (jx v10 v11) (fun h13=>
 Join (fun(t18:Bool) h19=>
 CondP t18 (
 J8 t6.1 h19) (
 ∃v20,av h19 h7 0 v20∧
 ∃v21,av h19 h7 1 v21∧
 (dd t6.1 e1.len∧∃a22,e1.a=some a22∧
 (rt h19 (adr a22 (t6.1.toNat*2)) (jx v20 v21) (fun h23=>
 J8 (IntKind.wrap .i64 (t6.1+1)) h23))))) (fun J14=>
 CondP (decide ((IntKind.wrap .i64 (t6.2+1))<(e1.len:Int))) (
 (dd (IntKind.wrap .i64 (t6.2+1)) e1.len∧∃a15,e1.a=some a15∧
 ∃v16,cf h13 (adr a15 ((IntKind.wrap .i64 (t6.2+1)).toNat*2)) 0 (.string v16)∧
 ∃v17,av h13 h7 0 v17∧
 J14 (v16.toList==v17.toList) h13)) (
 J14 false h13)))))) (
 (((0:Int)≤t6.1∧t6.1≤((e1.cap:Nat):Int))∧
 K ⟨aY e1.a 0 e1.cap 2,t6.1.toNat-0,e1.cap-0⟩ h7))) (0,0) h4) h2) h0
noncomputable def Dx:Ann:=.node .nil (.node .nil (.node .nil (.node .nil (.node (.node .nil (.loop [(4,.c (.int .i64)),(13,.c (.int .i64))] (.node .nil (.node .nil (.join [(4,.c (.int .i64))] (.node .nil (.node (.join [(33,.c .bool)] .nil .nil) .nil)) .nil))))) .nil))))
theorem Dn(x0:SliceV){K:cW [.c .slice]→ad→Prop}{h0:ad}(h:we x0 K h0):HC PG oY [.slice x0.a x0.len x0.cap] [.c .slice] K h0:=ed Dx Tryz.func123 Tryz.call123 rfl rfl (by kernel_rfl) h
def rc(x0:Int×Int×Int)(x1:ByteArray)(K:(Int)→ad→Prop)(h0:ad):Prop:=
 At (hnew h0 (yE x0) cC) (fun h1=>
 ∃v2,dQ h1 (adr (az h0) 0) 0 v2∧
 ∃v3,dQ h1 (adr (az h0) 0) 1 v3∧
 ∃v4,ae h1 h0 2 v4∧
 HC PG y5 [QM v2 v3,.string x1] ii (fun(e5:Int) h6=>
 (ae h6 h0 2 v4∧
 Bd (IntKind.wrap .u64 (aj (IntKind.bits .u64) e5&&&aj (IntKind.bits .u64) v4).toNat:Int) (fun n7=>
 K n7 h6))) h1)
theorem yd(x0:Int×Int×Int)(x1:ByteArray){K:cW ii→ad→Prop}{h0:ad}(h:rc x0 x1 K h0):HC PG ff [HJ x0,.string x1] ii K h0:=ed .nil Tryz.func126 Tryz.call126 rfl rfl (by kernel_rfl) h
def qz(x0:Option Addr)(K:(ByteArray×Bool)→ad→Prop)(h0:ad):Prop:=
 CondP x0.isNone (
 K ((⟨#[]⟩:ByteArray),false) h0) (
 ∃a1,x0=some a1∧
 ∃v2,bC h0 a1 2 v2∧
 ∃a3,x0=some a3∧
 ∃v4,ge h0 a3 1 v4∧
 K (v2,v4) h0)
theorem xa(x0:Option Addr){K:cW BR→ad→Prop}{h0:ad}(h:qz x0 K h0):HC PG jV [.pointer x0] BR K h0:=ed .nil Tryz.func128 Tryz.call128 rfl rfl (by kernel_rfl) h
def re(x0:Option Addr)(K:(SliceV)→ad→Prop)(h0:ad):Prop:=
 CondP x0.isNone (
 K ⟨none,0,0⟩ h0) (
 ∃a1,x0=some a1∧
 ∃v2:SliceV,bG h0 a1 3 v2∧
 HC PG de [.slice v2.a v2.len v2.cap] [.c .slice] (fun(e3:SliceV) h4=>
 K e3 h4) h0)
theorem yf(x0:Option Addr){K:cW [.c .slice]→ad→Prop}{h0:ad}(h:re x0 K h0):HC PG kH [.pointer x0] [.c .slice] K h0:=ed .nil Tryz.func129 Tryz.call129 rfl rfl (by kernel_rfl) h
def kP(x0:Option Addr)(K:(SliceV)→ad→Prop)(h0:ad):Prop:=
 CondP x0.isNone (
 K ⟨none,0,0⟩ h0) (
 ∃a1,x0=some a1∧
 ∃v2:SliceV,bG h0 (adr a1 0) 2 v2∧
 HC PG cZ [.slice v2.a v2.len v2.cap] [.c .slice] (fun(e3:SliceV) h4=>
 K e3 h4) h0)
theorem nP(x0:Option Addr){K:cW [.c .slice]→ad→Prop}{h0:ad}(h:kP x0 K h0):HC PG fg [.pointer x0] [.c .slice] K h0:=ed .nil Tryz.func130 Tryz.call130 rfl rfl (by kernel_rfl) h
def lZ(x0:Option Addr)(K:(SliceV)→ad→Prop)(h0:ad):Prop:=
 CondP x0.isNone (
 K ⟨none,0,0⟩ h0) (
 ∃a1,x0=some a1∧
 ∃v2:SliceV,bG h0 (adr a1 0) 3 v2∧
 HC PG dH [.slice v2.a v2.len v2.cap] [.c .slice] (fun(e3:SliceV) h4=>
 K e3 h4) h0)
theorem oG(x0:Option Addr){K:cW [.c .slice]→ad→Prop}{h0:ad}(h:lZ x0 K h0):HC PG jB [.pointer x0] [.c .slice] K h0:=ed .nil Tryz.func131 Tryz.call131 rfl rfl (by kernel_rfl) h
def pR(x0:Option Addr)(x1:SliceV)(K:(SliceV)→ad→Prop)(h0:ad):Prop:=
 ∃a1,x0=some a1∧
 ∃v2,bC h0 a1 0 v2∧
 HC PG lN (wi x1 v2) [.c .slice] (fun(e3:SliceV) h4=>
 Join (fun(t20:SliceV) h21=>
 Join (fun(t32:SliceV) h33=>
 ∃a34,x0=some a34∧
 ∃v35:SliceV,bG h33 a34 3 v35∧
 LoopP (fun I36 (t37:SliceV×Int) h38=>
 CondP (decide (t37.2<(v35.len:Int))) (
 (dd t37.2 v35.len∧∃a39,v35.a=some a39∧
 ∃v40,cf h38 a39 (t37.2.toNat*1) (.pointer v40)∧
 HC PG jq (Rr v40 t37.1) [.c .slice] (fun(e41:SliceV) h42=>
 I36 (e41,IntKind.wrap .i64 (t37.2+1)) h42) h38)) (
 K t37.1 h38)) (t32,0) h33) (fun J22=>
 ∃a23,x0=some a23∧
 ∃v24:SliceV,bG h21 a23 3 v24∧
 ∃a25,x0=some a25∧
 ∃v26:SliceV,bG h21 a25 3 v26∧
 ((0:Int)≤(8:Int)∧
 Bd (Int.fdiv (v26.len:Int) (2^(min (8:Int).toNat (IntKind.bits .i64))):Int) (fun n27=>
 At (hnew h21 (Ot (IntKind.wrap .u8 (v24.len:Int)) (IntKind.wrap .u8 n27)) cD) (fun h28=>
 (bG h28 a25 3 v26∧
 (bG h28 a23 3 v24∧
 ∃xs29,SRow h28 (some (az h21)) (2*1) xs29∧
 AppP (some [.int .u8 0]) 1 1 cD t20.a t20.len t20.cap 2 xs29 h28 (fun s30 h31=>
 (bG h31 a25 3 v26∧
 (bG h31 a23 3 v24∧
 J22 s30 h31)))))))))) (fun J5=>
 ∃a6,x0=some a6∧
 ∃v7,ge h4 a6 1 v7∧
 CondP v7 (
 ∃a8,x0=some a8∧
 ∃v9,bC h4 a8 2 v9∧
 At (hnew h4 [.int .u8 1] cD) (fun h10=>
 (bC h10 a8 2 v9∧
 ∃xs11,SRow h10 (some (az h4)) (1*1) xs11∧
 AppP (some [.int .u8 0]) 1 1 cD e3.a e3.len e3.cap 1 xs11 h10 (fun s12 h13=>
 (bC h13 a8 2 v9∧
 HC PG lN (wi s12 v9) [.c .slice] (fun(e14:SliceV) h15=>
 J5 e14 h15) h13))))) (
 At (hnew h4 [.int .u8 0] cD) (fun h16=>
 ∃xs17,SRow h16 (some (az h4)) (1*1) xs17∧
 AppP (some [.int .u8 0]) 1 1 cD e3.a e3.len e3.cap 1 xs17 h16 (fun s18 h19=>
 J5 s18 h19))))) h0
noncomputable def vC:Ann:=.node .nil (.node .nil (.join [(1,.c .slice)] .nil (.join [(1,.c .slice)] .nil (.node (.node .nil (.loop [(1,.c .slice),(49,.c (.int .i64))] .nil)) .nil))))
theorem vx(x0:Option Addr)(x1:SliceV){K:cW [.c .slice]→ad→Prop}{h0:ad}(h:pR x0 x1 K h0):HC PG jq (Rr x0 x1) [.c .slice] K h0:=ed vC Tryz.func132 Tryz.call132 rfl rfl (by kernel_rfl) h
def uT(x0:SliceV)(x1:Option Addr)(x2:Int)(K:(SliceV)→ad→Prop)(h0:ad):Prop:=
 HC PG fH [.pointer x1] [.c .bool] (fun(e1:Bool) h2=>
 CondP e1 (
 At (hnew h2 [.int .u8 1] cD) (fun h3=>
 ∃xs4,SRow h3 (some (az h2)) (1*1) xs4∧
 AppP (some [.int .u8 0]) 1 1 cD x0.a x0.len x0.cap 1 xs4 h3 (fun s5 h6=>
 HC PG pD [.pointer x1] cy (fun(e7:Int) h8=>
 HC PG lw (Ld s5 (IntKind.wrap .u64 e7) 2) [.c .slice] (fun(e9:SliceV) h10=>
 HC PG fg [.pointer x1] [.c .slice] (fun(e11:SliceV) h12=>
 HC PG oW (MD e9 e11) [.c .slice] (fun(e13:SliceV) h14=>
 K e13 h14) h12) h10) h8) h6))) (
 Join (fun(t28:SliceV) h29=>
 HC PG fg [.pointer x1] [.c .slice] (fun(e30:SliceV) h31=>
 HC PG oW (MD t28 e30) [.c .slice] (fun(e32:SliceV) h33=>
 CondP (x2==(13:Int)) (
 K e32 h33) (
 HC PG jB [.pointer x1] [.c .slice] (fun(e34:SliceV) h35=>
 LoopP (fun I36 (t37:SliceV×Int) h38=>
 CondP (decide (t37.2<(e34.len:Int))) (
 (dd t37.2 e34.len∧∃a39,e34.a=some a39∧
 ∃v40,cf h38 a39 (t37.2.toNat*1) (.pointer v40)∧
 HC PG qR (Rf t37.1 v40 (IntKind.wrap .i64 (x2+1))) [.c .slice] (fun(e41:SliceV) h42=>
 I36 (e41,IntKind.wrap .i64 (t37.2+1)) h42) h38)) (
 K t37.1 h38)) (e32,0) h35) h33)) h31) h29) (fun J15=>
 At (hnew h2 [.int .u8 0] cD) (fun h16=>
 ∃xs17,SRow h16 (some (az h2)) (1*1) xs17∧
 AppP (some [.int .u8 0]) 1 1 cD x0.a x0.len x0.cap 1 xs17 h16 (fun s18 h19=>
 HC PG jC [.pointer x1] iK (fun(e20:Int) h21=>
 HC PG lw (Ld s18 (IntKind.wrap .u64 e20) 4) [.c .slice] (fun(e22:SliceV) h23=>
 HC PG gM [.pointer x1] iK (fun(e24:Int) h25=>
 HC PG lw (Ld e22 (IntKind.wrap .u64 e24) 4) [.c .slice] (fun(e26:SliceV) h27=>
 J15 e26 h27) h25) h23) h21) h19))))) h0
noncomputable def HA:Ann:=.node .nil (.node .nil (.join [(0,.c .slice)] .nil (.node .nil (.node .nil (.node (.node .nil (.loop [(0,.c .slice),(42,.c (.int .i64))] .nil)) .nil)))))
theorem Aa(x0:SliceV)(x1:Option Addr)(x2:Int){K:cW [.c .slice]→ad→Prop}{h0:ad}(h:uT x0 x1 x2 K h0):HC PG qR (Rf x0 x1 x2) [.c .slice] K h0:=ed HA Tryz.func133 Tryz.call133 rfl rfl (by kernel_rfl) h
def CB(x0:ByteArray)(K:(SliceV)→ad→Prop)(h0:ad):Prop:=
 HC PG qe [.int .i64 (x0.size:Int)] [.c .slice] (fun(e1:SliceV) h2=>
 ByP cD x0 h2 (fun c3 h4=>
 ∃xs5,SRow h4 (some (az h2)) (x0.size*1) xs5∧
 AppP (some [.int .u8 0]) 1 1 cD e1.a e1.len e1.cap x0.size xs5 h4 (fun s6 h7=>
 K s6 h7))) h0
theorem JC(x0:ByteArray){K:cW [.c .slice]→ad→Prop}{h0:ad}(h:CB x0 K h0):HC PG oE [.string x0] [.c .slice] K h0:=ed .nil Tryz.func134 Tryz.call134 rfl rfl (by kernel_rfl) h
def Et(x0:Int)(K:(SliceV)→ad→Prop)(h0:ad):Prop:=
 ((256:Int)≠0∧
 At (hnew h0 (Ot (IntKind.wrap .u8 x0) (IntKind.wrap .u8 (IntKind.wrap .i64 (lF x0 256)))) cD) (fun h1=>
 K ⟨some (az h0),2,2⟩ h1))
theorem Mc(x0:Int){K:cW [.c .slice]→ad→Prop}{h0:ad}(h:Et x0 K h0):HC PG qe [.int .i64 x0] [.c .slice] K h0:=ed .nil Tryz.func135 Tryz.call135 rfl rfl (by kernel_rfl) h
def yq(x0:SliceV)(K:(SliceV)→ad→Prop)(h0:ad):Prop:=
 LoopP (fun I1 (t2:SliceV×Int) h3=>
 CondP (decide (t2.2<(x0.len:Int))) (
 LoopP (fun I4 (t5:Int) h6=>
 Join (fun(t14:Bool) h15=>
 CondP t14 (
 I4 (IntKind.wrap .i64 (t5+1)) h15) (
 (((0:Int)≤t5∧t5≤((x0.cap:Nat):Int))∧
 (((0:Int)≤t2.2∧t2.2≤((t5.toNat:Nat):Int))∧
 HC PG te [.slice (aY x0.a t2.2.toNat x0.cap 2) (t5.toNat-t2.2.toNat) (x0.cap-t2.2.toNat)] [.c .ptr] (fun(e16:Option Addr) h17=>
 At (hnew h17 [.pointer e16] pY) (fun h18=>
 ∃xs19,SRow h18 (some (az h17)) (1*1) xs19∧
 AppP (some [.pointer none]) 1 8 pY t2.1.a t2.1.len t2.1.cap 1 xs19 h18 (fun s20 h21=>
 I1 (s20,t5) h21))) h15)))) (fun J7=>
 CondP (decide (t5<(x0.len:Int))) (
 (dd t5 x0.len∧∃a8,x0.a=some a8∧
 ∃v9,bC h6 (adr a8 (t5.toNat*2)) 0 v9∧
 ∃b10,(0:Int)≤(0:Int)∧v9[(0:Int).toNat]? =some b10∧
 (dd t2.2 x0.len∧∃a11,x0.a=some a11∧
 ∃v12,bC h6 (adr a11 (t2.2.toNat*2)) 0 v12∧
 ∃b13,(0:Int)≤(0:Int)∧v12[(0:Int).toNat]? =some b13∧
 J7 ((b10.toNat:Int)==(b13.toNat:Int)) h6))) (
 J7 false h6))) t2.2 h3) (
 K t2.1 h3)) (⟨none,0,0⟩,0) h0
noncomputable def FU:Ann:=.node .nil (.node .nil (.node (.node .nil (.loop [(3,.c .slice),(4,.c (.int .i64))] (.node .nil (.node .nil (.node (.loop [(5,.c (.int .i64))] (.node (.join [(29,.c .bool)] .nil .nil) .nil)) .nil))))) .nil))
theorem FK(x0:SliceV){K:cW [.c .slice]→ad→Prop}{h0:ad}(h:yq x0 K h0):HC PG p7 [.slice x0.a x0.len x0.cap] [.c .slice] K h0:=ed FU Tryz.func136 Tryz.call136 rfl rfl (by kernel_rfl) h
def Ah(x0:SliceV)(K:(SliceV)→ad→Prop)(h0:ad):Prop:=
 LoopP (fun I1 (t2:SliceV×Int) h3=>
 CondP (decide (t2.2<(x0.len:Int))) (
 Join (fun(t22:SliceV) h23=>
 I1 (t22,IntKind.wrap .i64 (t2.2+1)) h23) (fun J4=>
 (dd t2.2 x0.len∧∃a5,x0.a=some a5∧
 ∃v6,bC h3 (adr a5 (t2.2.toNat*2)) 0 v6∧
 ∃v7,bC h3 (adr a5 (t2.2.toNat*2)) 1 v7∧
 nv h3 kU bS (jx v6 v7) (fun h9=>
 ∃v10,av h9 h3 0 v10∧
 ∃v11,av h9 h3 1 v11∧
 HC PG oE [.string v10] [.c .slice] (fun(e12:SliceV) h13=>
 (av h13 h3 1 v11∧
 ∃xs14,SRow h13 e12.a (e12.len*1) xs14∧
 AppP (some [.int .u8 0]) 1 1 cD t2.1.a t2.1.len t2.1.cap e12.len xs14 h13 (fun s15 h16=>
 (av h16 h3 1 v11∧
 HC PG oE [.string v11] [.c .slice] (fun(e17:SliceV) h18=>
 ∃xs19,SRow h18 e17.a (e17.len*1) xs19∧
 AppP (some [.int .u8 0]) 1 1 cD s15.a s15.len s15.cap e17.len xs19 h18 (fun s20 h21=>
 J4 s20 h21)) h16)))) h9)))) (
 K t2.1 h3)) (⟨none,0,0⟩,0) h0
noncomputable def HG:Ann:=.node .nil (.node .nil (.node (.node .nil (.loop [(3,.c .slice),(8,.c (.int .i64))] (.node .nil (.node .nil (.join [(3,.c .slice)] .nil .nil))))) .nil))
theorem Ho(x0:SliceV){K:cW [.c .slice]→ad→Prop}{h0:ad}(h:Ah x0 K h0):HC PG pj [.slice x0.a x0.len x0.cap] [.c .slice] K h0:=ed HG Tryz.func137 Tryz.call137 rfl rfl (by kernel_rfl) h
def CE(x0:Int)(K:(SliceV)→ad→Prop)(h0:ad):Prop:=
 ((256:Int)≠0∧
 ((65536:Int)≠0∧
 ((16777216:Int)≠0∧
 At (hnew h0 (QJ (IntKind.wrap .u8 x0) (IntKind.wrap .u8 (IntKind.wrap .u32 (lF x0 256))) (IntKind.wrap .u8 (IntKind.wrap .u32 (lF x0 65536))) (IntKind.wrap .u8 (IntKind.wrap .u32 (lF x0 16777216)))) cD) (fun h1=>
 K ⟨some (az h0),4,4⟩ h1))))
theorem JE(x0:Int){K:cW [.c .slice]→ad→Prop}{h0:ad}(h:CE x0 K h0):HC PG tg [.int .u32 x0] [.c .slice] K h0:=ed .nil Tryz.func138 Tryz.call138 rfl rfl (by kernel_rfl) h
def CG(x0:Int×Int×Int)(x1:ByteArray)(K:(Int)→ad→Prop)(h0:ad):Prop:=
 At (hnew h0 (yE x0) pX) (fun h1=>
 ∃v2,ae h1 h0 0 v2∧
 ∃v3,ae h1 h0 1 v3∧
 ∃v4,ae h1 h0 2 v4∧
 HC PG y8 (PU v2 v3 x1) ii (fun(e5:Int) h6=>
 (ae h6 h0 2 v4∧
 Bd (IntKind.wrap .u64 (aj (IntKind.bits .u64) e5&&&aj (IntKind.bits .u64) v4).toNat:Int) (fun n7=>
 K n7 h6))) h1)
theorem JF(x0:Int×Int×Int)(x1:ByteArray){K:cW ii→ad→Prop}{h0:ad}(h:CG x0 x1 K h0):HC PG wM [HJ x0,.string x1] ii K h0:=ed .nil Tryz.func139 Tryz.call139 rfl rfl (by kernel_rfl) h
end Go.Proofs
