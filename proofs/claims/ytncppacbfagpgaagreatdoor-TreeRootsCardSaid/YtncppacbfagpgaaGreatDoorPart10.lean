/- A part of the proof that the named laws of this program answer true, whatever the input. -/
import Derived.Test.YtncppacbfagpgaaGreatDoorPart9
open List.Pairwise renaming nil→cE
open Nat renaming le_refl→ao
namespace Go.Proofs
open Go Go.Lift
theorem gC{x:Hs}{h:ad}{c:Addr}{K:Tr→ad→Prop}(hk:∀h',Upd No h h'→K (0,x.k0,x.k1,x.mask,some c,none) h'):HC PG cY [.agg #[.int .u64 x.k0,.int .u64 x.k1,.int .u64 x.mask],.pointer (some c)] [.agg [.int .i64,.int .u64,.int .u64,.int .u64,.ptr,.ptr]] K h:=by
 refine uP (x.k0,x.k1,x.mask) (some c) ?_;unfold qr aM ae au cJ yE ml Lg;refine aG fun h1 b1 k1=>aG fun h2 b2 k2=>?_
 have z1:h.size≤h1.size:=k1.size;have z2:=aJ b2;refine Join.plain (al.2 ?_);have c1:=k2.get0 b1;refine⟨_,vc c1 0,_,vc c1 1,_,vc c1 2,?_⟩;refine bo (c:=dZ iP) (vs:=dZ (0,x.k0,x.k1,x.mask,some c,none)) b2 rfl fun h4 b4 hu4=>?_
 exact⟨_,vc b4 0,_,vc b4 1,_,vc b4 2,_,vc b4 3,_,vc b4 4,_,vc b4 5,hk h4 ((k1.tr k2).own hu4 z1)⟩
theorem cn{h:ad}{c:Addr}{K:Tr→ad→Prop}(hk:∀h',Upd No h h'→K (1,0,0,0,none,some c) h'):HC PG bq [.pointer (some c)] [.agg [.int .i64,.int .u64,.int .u64,.int .u64,.ptr,.ptr]] K h:=by
 refine uO (some c) ?_;unfold qq aM ae au cJ ml Lg;refine aG fun h2 b2 k2=>?_
 refine Join.plain (al.2 ?_);refine bo (c:=dZ iP) (vs:=dZ (1,0,0,0,none,some c)) b2 rfl fun h4 b4 hu4=>?_
 exact⟨_,vc b4 0,_,vc b4 1,_,vc b4 2,_,vc b4 3,_,vc b4 4,_,vc b4 5,hk h4 (k2.own hu4 (ao _))⟩
theorem Lj{h:ad}(p:Pr)(hp1:p.1.size≤256)(hp2:p.2.size≤4096){K:Tr×Int→ad→Prop}
  (hk:∀h' t',TreeIs No h' 0 ⟨0,0,0⟩ t' [p]→Upd No h h'→K (t',0) h'):HC PG ij [An iP,.pointer none,.agg #[.string p.1,.string p.2]] [.agg [.int .i64,.int .u64,.int .u64,.int .u64,.ptr,.ptr],.c (.int .i64)] K h:=by
 refine r9 iP none p ?_;unfold oH aM ae au cJ pW ml gB o9 jx cy dQ av Lg dL sP uw;refine aG fun h1 b1 k1=>aG fun h2 b2 k2=>aG fun h3 b3 k3=>?_
 have z1:=aJ b1;have z2:=aJ b2;have z3:=aJ b3;have s1:h.size≤h1.size:=k1.size;have s2:h1.size≤h2.size:=k2.size;have s3:=k3.size;have k03:=(k1.tr k2).tr k3;have v1:=k3.get0 (k2.get0 b1);have v2:=k3.get0 b2;refine⟨_,vc v2 0,_,vc v2 1,DS hp1 hp2 (al.2 ?_)⟩;refine⟨_,vc v1 0,al.2 ⟨_,oh v1 1 0,_,oh v1 1 1,_,oh v1 1 2,_,vc v1 4,p.1,vc v2 0,p.2,vc v2 1,?_⟩⟩;refine zX (W:=fun y=>y=h.size∨y=h2.size) (x:=⟨0,0,0⟩) (l:= []) (.inl ⟨rfl,rfl⟩) (fun y hy=>by omega) cE (by simp) p fun h4 b4 hu4 t4 _=>?_
 have z4:=hu4.size;refine rQ (i:=4) (c':=(dZ (0,0,0,0,some ⟨b4,0,none⟩,none)).toArray) (hu4.get0 v1) (show 4<6 by decide) rfl fun h5 v5 hu5=>?_
 refine⟨_,vc v5 0,_,vc v5 1,_,vc v5 2,_,vc v5 3,_,vc v5 4,_,vc v5 5,?_⟩;refine bo (c:=dZ iP) (vs:=dZ (0,0,0,0,some ⟨b4,0,none⟩,none)) (hu5.oth (hu4.get0 b3) (by omega)) rfl fun h6 v6 hu6=>?_
 refine⟨_,vc v6 0,_,vc v6 1,_,vc v6 2,_,vc v6 3,_,vc v6 4,_,vc v6 5,?_⟩;exact hk h6 _ (.inl ⟨rfl,b4,rfl,TrieAt.less (fun _ h=>h.elim) (TrieAt.updM hu6 (fun y hy=>.inl (.inr hy)) (TrieAt.updM hu5 (fun y hy=>.inl (.inl hy)) t4))⟩) (((k03.tr hu4).own hu5 (ao _)).own hu6 (by omega))
set_option maxRecDepth 100000 in
set_option maxHeartbeats 4000000 in
theorem EH{h:ad}{kind:Int}{x:Hs}{s:SliceV}{l:List Pr}(tb:Tab h)(hs:Sl eC 2 No h s l)(hl:l.length≤9223372036854775807):
  HC PG tN [.int .i64 kind,.agg #[.int .u64 x.k0,.int .u64 x.k1,.int .u64 x.mask],.slice s.a s.len s.cap] [.c .bool] (fun b h'=>b=true∧Upd No h h') h:=by
 refine AC kind (x.k0,x.k1,x.mask) s ?_;unfold tX cf aM ae au eP cJ nv yE pW ml Mw gB Ms oe o9 PX IB zg2 jx Nv yX gV BS;refine aG fun h1 b1 k1=>Jo fun h3 k3=>al.2 ?_
 have c3:=k3.get0 b1;have k03:=k1.tr k3;refine⟨_,vc c3 0,_,vc c3 1,_,vc c3 2,?_⟩;refine KC (W:=No) (x:=x) (kind:=0) (hs.upd k03 fun _ h=>h.elim) (fun _ h=>h.elim) (.inl rfl) hl fun h8 t r i8 j8 k8=>?_
 refine aG fun h9 b9 k9=>aG fun h10 b10 k10=>?_
 have z9:=aJ b9;have z10:=aJ b10;refine bo (c:=dZ iP) (vs:=dZ t) (k10.get0 b9) rfl fun h11 b11 hu11=>?_
 refine bo (c:=ER PF) (vs:=ER r) (hu11.oth b10 (by omega)) rfl fun h12 b12 hu12=>?_
 have ct12:=hu12.oth b11 (by omega);have k812:Upd No h8 h12:=((k9.tr k10).own hu11 (ao _)).own hu12 (by omega);have k012:=(k03.tr k8).tr k812;have ca12:=(k8.tr k812).get0 c3;refine⟨_,vc ca12 0,_,vc ca12 1,_,vc ca12 2,?_⟩;refine KC (W:=No) (x:=x) (kind:=1) (hs.upd k012 fun _ h=>h.elim) (fun _ h=>h.elim) (.inr rfl) hl fun h17 u q i17 j17 k17=>?_
 refine aG fun h18 b18 k18=>aG fun h19 b19 k19=>?_
 have z18:=aJ b18;have z19:=aJ b19;refine bo (c:=dZ iP) (vs:=dZ u) (k19.get0 b18) rfl fun h20 b20 hu20=>?_
 refine bo (c:=ER PF) (vs:=ER q) (hu20.oth b19 (by omega)) rfl fun h21 b21 hu21=>?_
 have cu:=hu21.oth b20 (by omega);have k1721:Upd No h17 h21:=((k18.tr k19).own hu20 (ao _)).own hu21 (by omega);have k1221:=k17.tr k1721;have k021:=k012.tr k1221;have ca:=k1221.get0 ca12;have ct:=k1221.get0 ct12;have cr:=k1221.get0 b12;have cq:=b21;have i21:=i8.upd0 (k812.tr k1221);have j21:=j8.upd0 (k812.tr k1221);have i21':=i17.upd0 k1721;have j21':=j17.upd0 k1721;have fw:=G3 l;obtain⟨ba,et,ta⟩:∃b,t=(0,x.k0,x.k1,x.mask,some ⟨b,0,none⟩,none)∧TrieAt No x h21 13 b (nf l):=by
  rcases i21 with⟨_,b,e,t⟩|⟨e,_⟩
  ·exact⟨b,e,t⟩
  ·cases e
 obtain⟨bb,eu,_⟩:∃b,u=(1,0,0,0,none,some ⟨b,0,none⟩)∧RadAt No h21 b (nf l):=by
  rcases i21' with⟨e,_⟩|⟨_,b,e,t⟩
  ·cases e
  ·exact⟨b,e,t⟩
 subst et eu;clear b9 b10 b11 b12 b18 b19 b20 b21 hu11 hu12 hu20 hu21 ct12 ca12;refine Join.intro (fun t' h'=>∃b c,t'=(⟨b,0,none⟩,⟨c,0,none⟩)∧h'[b]? =some (.cells (dZ (0,x.k0,x.k1,x.mask,some ⟨ba,0,none⟩,none)).toArray aI (0,0))∧h'[c]? =some (.cells (dZ (1,0,0,0,none,some ⟨bb,0,none⟩)).toArray aI (0,0))∧Upd No h21 h') (fun R hR=>?_) ?_
 ·refine⟨_,vc ca 0,_,vc ca 1,_,vc ca 2,_,vc ct 0,_,vc ct 1,_,vc ct 2,_,vc ct 3,_,vc ct 4,_,vc ct 5,_,vc cu 0,_,vc cu 1,_,vc cu 2,_,vc cu 3,_,vc cu 4,_,vc cu 5,?_⟩
  constructor
  ·refine nb (x:=x) (TrieAt.upd0 (Upd.refl _ _) ta) fun h303 k303=>?_
   have s303:=k303.size;have cu:=k303.get0 cu;refine⟨⟨vc cu 0,vc cu 1,vc cu 2,vc cu 3,vc cu 4,vc cu 5⟩,?_⟩;have ca:=k303.get0 ca;refine⟨⟨vc ca 0,vc ca 1,vc ca 2⟩,?_⟩;constructor
   ·refine gC (x:=x) fun h305 k305=>?_
    have s305:=k305.size;have cu:=k305.get0 cu;refine⟨⟨vc cu 0,vc cu 1,vc cu 2,vc cu 3,vc cu 4,vc cu 5⟩,?_⟩;constructor
    ·refine eF (t:=(1,0,0,0,none,some ⟨bb,0,none⟩)) fun h307 k307=>?_
     have s307:=k307.size;constructor
     ·refine cn fun h309 k309=>?_
      have s309:=k309.size;constructor
      ·refine aG fun h310 b310 k310=>?_
       have s310:=k310.size;have z310:=aJ b310;refine aG fun h311 b311 k311=>?_
       have s311:=k311.size;have z311:=aJ b311;refine bo (c:=dZ iP) (vs:=dZ (0,x.k0,x.k1,x.mask,some ⟨ba,0,none⟩,none)) (k311.get0 b310) rfl fun h312 c312 hu312=>?_
       have s312:=hu312.size;refine bo (c:=dZ iP) (vs:=dZ (1,0,0,0,none,some ⟨bb,0,none⟩)) (hu312.oth b311 (by omega)) rfl fun h313 c313 hu313=>?_
       have s313:=hu313.size;exact hR _ _ ⟨_,_,rfl,(hu313.oth c312 (by omega)),c313,(((((((k303.tr k305).tr k307).tr k309).tr k310).tr k311).own hu312 (by omega)).own hu313 (by omega))⟩
      ·refine aG fun h314 b314 k314=>?_
       have s314:=k314.size;have z314:=aJ b314;refine aG fun h315 b315 k315=>?_
       have s315:=k315.size;have z315:=aJ b315;refine bo (c:=dZ iP) (vs:=dZ (0,x.k0,x.k1,x.mask,some ⟨ba,0,none⟩,none)) b315 rfl fun h316 c316 hu316=>?_
       have s316:=hu316.size;refine bo (c:=dZ iP) (vs:=dZ (1,0,0,0,none,some ⟨bb,0,none⟩)) (hu316.oth (k315.get0 b314) (by omega)) rfl fun h317 c317 hu317=>?_
       have s317:=hu317.size;exact hR _ _ ⟨_,_,rfl,(hu317.oth c316 (by omega)),c317,(((((((k303.tr k305).tr k307).tr k309).tr k314).tr k315).own hu316 (by omega)).own hu317 (by omega))⟩
     ·constructor
      ·refine aG fun h318 b318 k318=>?_
       have s318:=k318.size;have z318:=aJ b318;constructor
       ·refine cn fun h320 k320=>?_
        have s320:=k320.size;refine aG fun h321 b321 k321=>?_
        have s321:=k321.size;have z321:=aJ b321;refine bo (c:=dZ iP) (vs:=dZ (0,x.k0,x.k1,x.mask,some ⟨ba,0,none⟩,none)) (k321.get0 (k320.get0 b318)) rfl fun h322 c322 hu322=>?_
        have s322:=hu322.size;refine bo (c:=dZ iP) (vs:=dZ (1,0,0,0,none,some ⟨bb,0,none⟩)) (hu322.oth b321 (by omega)) rfl fun h323 c323 hu323=>?_
        have s323:=hu323.size;exact hR _ _ ⟨_,_,rfl,(hu323.oth c322 (by omega)),c323,(((((((k303.tr k305).tr k307).tr k318).tr k320).tr k321).own hu322 (by omega)).own hu323 (by omega))⟩
       ·refine aG fun h324 b324 k324=>?_
        have s324:=k324.size;have z324:=aJ b324;refine cn fun h326 k326=>?_
        have s326:=k326.size;refine bo (c:=dZ iP) (vs:=dZ (0,x.k0,x.k1,x.mask,some ⟨ba,0,none⟩,none)) (k326.get0 (k324.get0 b318)) rfl fun h327 c327 hu327=>?_
        have s327:=hu327.size;refine bo (c:=dZ iP) (vs:=dZ (1,0,0,0,none,some ⟨bb,0,none⟩)) (hu327.oth (k326.get0 b324) (by omega)) rfl fun h328 c328 hu328=>?_
        have s328:=hu328.size;exact hR _ _ ⟨_,_,rfl,(hu328.oth c327 (by omega)),c328,(((((((k303.tr k305).tr k307).tr k318).tr k324).tr k326).own hu327 (by omega)).own hu328 (by omega))⟩
      ·refine aG fun h329 b329 k329=>?_
       have s329:=k329.size;have z329:=aJ b329;constructor
       ·refine cn fun h331 k331=>?_
        have s331:=k331.size;refine aG fun h332 b332 k332=>?_
        have s332:=k332.size;have z332:=aJ b332;refine bo (c:=dZ iP) (vs:=dZ (0,x.k0,x.k1,x.mask,some ⟨ba,0,none⟩,none)) b332 rfl fun h333 c333 hu333=>?_
        have s333:=hu333.size;refine bo (c:=dZ iP) (vs:=dZ (1,0,0,0,none,some ⟨bb,0,none⟩)) (hu333.oth (k332.get0 (k331.get0 b329)) (by omega)) rfl fun h334 c334 hu334=>?_
        have s334:=hu334.size;exact hR _ _ ⟨_,_,rfl,(hu334.oth c333 (by omega)),c334,(((((((k303.tr k305).tr k307).tr k329).tr k331).tr k332).own hu333 (by omega)).own hu334 (by omega))⟩
       ·refine aG fun h335 b335 k335=>?_
        have s335:=k335.size;have z335:=aJ b335;refine cn fun h337 k337=>?_
        have s337:=k337.size;refine bo (c:=dZ iP) (vs:=dZ (0,x.k0,x.k1,x.mask,some ⟨ba,0,none⟩,none)) (k337.get0 b335) rfl fun h338 c338 hu338=>?_
        have s338:=hu338.size;refine bo (c:=dZ iP) (vs:=dZ (1,0,0,0,none,some ⟨bb,0,none⟩)) (hu338.oth (k337.get0 (k335.get0 b329)) (by omega)) rfl fun h339 c339 hu339=>?_
        have s339:=hu339.size;exact hR _ _ ⟨_,_,rfl,(hu339.oth c338 (by omega)),c339,(((((((k303.tr k305).tr k307).tr k329).tr k335).tr k337).own hu338 (by omega)).own hu339 (by omega))⟩
    ·constructor
     ·refine aG fun h340 b340 k340=>?_
      have s340:=k340.size;have z340:=aJ b340;have cu:=k340.get0 cu;refine⟨⟨vc cu 0,vc cu 1,vc cu 2,vc cu 3,vc cu 4,vc cu 5⟩,?_⟩;constructor
      ·refine eF (t:=(1,0,0,0,none,some ⟨bb,0,none⟩)) fun h342 k342=>?_
       have s342:=k342.size;constructor
       ·refine cn fun h344 k344=>?_
        have s344:=k344.size;refine aG fun h345 b345 k345=>?_
        have s345:=k345.size;have z345:=aJ b345;refine bo (c:=dZ iP) (vs:=dZ (0,x.k0,x.k1,x.mask,some ⟨ba,0,none⟩,none)) (k345.get0 (k344.get0 (k342.get0 b340))) rfl fun h346 c346 hu346=>?_
        have s346:=hu346.size;refine bo (c:=dZ iP) (vs:=dZ (1,0,0,0,none,some ⟨bb,0,none⟩)) (hu346.oth b345 (by omega)) rfl fun h347 c347 hu347=>?_
        have s347:=hu347.size;exact hR _ _ ⟨_,_,rfl,(hu347.oth c346 (by omega)),c347,(((((((k303.tr k305).tr k340).tr k342).tr k344).tr k345).own hu346 (by omega)).own hu347 (by omega))⟩
       ·refine aG fun h348 b348 k348=>?_
        have s348:=k348.size;have z348:=aJ b348;refine cn fun h350 k350=>?_
        have s350:=k350.size;refine bo (c:=dZ iP) (vs:=dZ (0,x.k0,x.k1,x.mask,some ⟨ba,0,none⟩,none)) (k350.get0 (k348.get0 (k342.get0 b340))) rfl fun h351 c351 hu351=>?_
        have s351:=hu351.size;refine bo (c:=dZ iP) (vs:=dZ (1,0,0,0,none,some ⟨bb,0,none⟩)) (hu351.oth (k350.get0 b348) (by omega)) rfl fun h352 c352 hu352=>?_
        have s352:=hu352.size;exact hR _ _ ⟨_,_,rfl,(hu352.oth c351 (by omega)),c352,(((((((k303.tr k305).tr k340).tr k342).tr k348).tr k350).own hu351 (by omega)).own hu352 (by omega))⟩
      ·refine aG fun h353 b353 k353=>?_
       have s353:=k353.size;have z353:=aJ b353;have cu:=k353.get0 cu;refine⟨⟨vc cu 0,vc cu 1,vc cu 2,vc cu 3,vc cu 4,vc cu 5⟩,?_⟩;refine eF (t:=(1,0,0,0,none,some ⟨bb,0,none⟩)) fun h355 k355=>?_
       have s355:=k355.size;refine cn fun h357 k357=>?_
       have s357:=k357.size;refine bo (c:=dZ iP) (vs:=dZ (0,x.k0,x.k1,x.mask,some ⟨ba,0,none⟩,none)) (k357.get0 (k355.get0 (k353.get0 b340))) rfl fun h358 c358 hu358=>?_
       have s358:=hu358.size;refine bo (c:=dZ iP) (vs:=dZ (1,0,0,0,none,some ⟨bb,0,none⟩)) (hu358.oth (k357.get0 (k355.get0 b353)) (by omega)) rfl fun h359 c359 hu359=>?_
       have s359:=hu359.size;exact hR _ _ ⟨_,_,rfl,(hu359.oth c358 (by omega)),c359,(((((((k303.tr k305).tr k340).tr k353).tr k355).tr k357).own hu358 (by omega)).own hu359 (by omega))⟩
     ·refine aG fun h360 b360 k360=>?_
      have s360:=k360.size;have z360:=aJ b360;have cu:=k360.get0 cu;refine⟨⟨vc cu 0,vc cu 1,vc cu 2,vc cu 3,vc cu 4,vc cu 5⟩,?_⟩;constructor
      ·refine eF (t:=(1,0,0,0,none,some ⟨bb,0,none⟩)) fun h362 k362=>?_
       have s362:=k362.size;constructor
       ·refine cn fun h364 k364=>?_
        have s364:=k364.size;refine aG fun h365 b365 k365=>?_
        have s365:=k365.size;have z365:=aJ b365;refine bo (c:=dZ iP) (vs:=dZ (0,x.k0,x.k1,x.mask,some ⟨ba,0,none⟩,none)) b365 rfl fun h366 c366 hu366=>?_
        have s366:=hu366.size;refine bo (c:=dZ iP) (vs:=dZ (1,0,0,0,none,some ⟨bb,0,none⟩)) (hu366.oth (k365.get0 (k364.get0 (k362.get0 b360))) (by omega)) rfl fun h367 c367 hu367=>?_
        have s367:=hu367.size;exact hR _ _ ⟨_,_,rfl,(hu367.oth c366 (by omega)),c367,(((((((k303.tr k305).tr k360).tr k362).tr k364).tr k365).own hu366 (by omega)).own hu367 (by omega))⟩
       ·refine aG fun h368 b368 k368=>?_
        have s368:=k368.size;have z368:=aJ b368;refine cn fun h370 k370=>?_
        have s370:=k370.size;refine bo (c:=dZ iP) (vs:=dZ (0,x.k0,x.k1,x.mask,some ⟨ba,0,none⟩,none)) (k370.get0 b368) rfl fun h371 c371 hu371=>?_
        have s371:=hu371.size;refine bo (c:=dZ iP) (vs:=dZ (1,0,0,0,none,some ⟨bb,0,none⟩)) (hu371.oth (k370.get0 (k368.get0 (k362.get0 b360))) (by omega)) rfl fun h372 c372 hu372=>?_
        have s372:=hu372.size;exact hR _ _ ⟨_,_,rfl,(hu372.oth c371 (by omega)),c372,(((((((k303.tr k305).tr k360).tr k362).tr k368).tr k370).own hu371 (by omega)).own hu372 (by omega))⟩
      ·refine aG fun h373 b373 k373=>?_
       have s373:=k373.size;have z373:=aJ b373;have cu:=k373.get0 cu;refine⟨⟨vc cu 0,vc cu 1,vc cu 2,vc cu 3,vc cu 4,vc cu 5⟩,?_⟩;refine eF (t:=(1,0,0,0,none,some ⟨bb,0,none⟩)) fun h375 k375=>?_
       have s375:=k375.size;refine cn fun h377 k377=>?_
       have s377:=k377.size;refine bo (c:=dZ iP) (vs:=dZ (0,x.k0,x.k1,x.mask,some ⟨ba,0,none⟩,none)) (k377.get0 (k375.get0 b373)) rfl fun h378 c378 hu378=>?_
       have s378:=hu378.size;refine bo (c:=dZ iP) (vs:=dZ (1,0,0,0,none,some ⟨bb,0,none⟩)) (hu378.oth (k377.get0 (k375.get0 (k373.get0 b360))) (by omega)) rfl fun h379 c379 hu379=>?_
       have s379:=hu379.size;exact hR _ _ ⟨_,_,rfl,(hu379.oth c378 (by omega)),c379,(((((((k303.tr k305).tr k360).tr k373).tr k375).tr k377).own hu378 (by omega)).own hu379 (by omega))⟩
   ·constructor
    ·refine aG fun h380 b380 k380=>?_
     have s380:=k380.size;have z380:=aJ b380;have cu:=k380.get0 cu;refine⟨⟨vc cu 0,vc cu 1,vc cu 2,vc cu 3,vc cu 4,vc cu 5⟩,?_⟩;have ca:=k380.get0 ca;refine⟨⟨vc ca 0,vc ca 1,vc ca 2⟩,?_⟩;constructor
     ·refine gC (x:=x) fun h382 k382=>?_
      have s382:=k382.size;have cu:=k382.get0 cu;refine⟨⟨vc cu 0,vc cu 1,vc cu 2,vc cu 3,vc cu 4,vc cu 5⟩,?_⟩;constructor
      ·refine eF (t:=(1,0,0,0,none,some ⟨bb,0,none⟩)) fun h384 k384=>?_
       have s384:=k384.size;constructor
       ·refine cn fun h386 k386=>?_
        have s386:=k386.size;refine aG fun h387 b387 k387=>?_
        have s387:=k387.size;have z387:=aJ b387;refine bo (c:=dZ iP) (vs:=dZ (0,x.k0,x.k1,x.mask,some ⟨ba,0,none⟩,none)) (k387.get0 (k386.get0 (k384.get0 (k382.get0 b380)))) rfl fun h388 c388 hu388=>?_
        have s388:=hu388.size;refine bo (c:=dZ iP) (vs:=dZ (1,0,0,0,none,some ⟨bb,0,none⟩)) (hu388.oth b387 (by omega)) rfl fun h389 c389 hu389=>?_
        have s389:=hu389.size;exact hR _ _ ⟨_,_,rfl,(hu389.oth c388 (by omega)),c389,(((((((k303.tr k380).tr k382).tr k384).tr k386).tr k387).own hu388 (by omega)).own hu389 (by omega))⟩
       ·refine aG fun h390 b390 k390=>?_
        have s390:=k390.size;have z390:=aJ b390;refine cn fun h392 k392=>?_
        have s392:=k392.size;refine bo (c:=dZ iP) (vs:=dZ (0,x.k0,x.k1,x.mask,some ⟨ba,0,none⟩,none)) (k392.get0 (k390.get0 (k384.get0 (k382.get0 b380)))) rfl fun h393 c393 hu393=>?_
        have s393:=hu393.size;refine bo (c:=dZ iP) (vs:=dZ (1,0,0,0,none,some ⟨bb,0,none⟩)) (hu393.oth (k392.get0 b390) (by omega)) rfl fun h394 c394 hu394=>?_
        have s394:=hu394.size;exact hR _ _ ⟨_,_,rfl,(hu394.oth c393 (by omega)),c394,(((((((k303.tr k380).tr k382).tr k384).tr k390).tr k392).own hu393 (by omega)).own hu394 (by omega))⟩
      ·refine aG fun h395 b395 k395=>?_
       have s395:=k395.size;have z395:=aJ b395;have cu:=k395.get0 cu;refine⟨⟨vc cu 0,vc cu 1,vc cu 2,vc cu 3,vc cu 4,vc cu 5⟩,?_⟩;refine eF (t:=(1,0,0,0,none,some ⟨bb,0,none⟩)) fun h397 k397=>?_
       have s397:=k397.size;refine cn fun h399 k399=>?_
       have s399:=k399.size;refine bo (c:=dZ iP) (vs:=dZ (0,x.k0,x.k1,x.mask,some ⟨ba,0,none⟩,none)) (k399.get0 (k397.get0 (k395.get0 (k382.get0 b380)))) rfl fun h400 c400 hu400=>?_
       have s400:=hu400.size;refine bo (c:=dZ iP) (vs:=dZ (1,0,0,0,none,some ⟨bb,0,none⟩)) (hu400.oth (k399.get0 (k397.get0 b395)) (by omega)) rfl fun h401 c401 hu401=>?_
       have s401:=hu401.size;exact hR _ _ ⟨_,_,rfl,(hu401.oth c400 (by omega)),c401,(((((((k303.tr k380).tr k382).tr k395).tr k397).tr k399).own hu400 (by omega)).own hu401 (by omega))⟩
     ·refine aG fun h402 b402 k402=>?_
      have s402:=k402.size;have z402:=aJ b402;have cu:=k402.get0 cu;refine⟨⟨vc cu 0,vc cu 1,vc cu 2,vc cu 3,vc cu 4,vc cu 5⟩,?_⟩;have ca:=k402.get0 ca;refine⟨⟨vc ca 0,vc ca 1,vc ca 2⟩,?_⟩;refine gC (x:=x) fun h404 k404=>?_
      have s404:=k404.size;have cu:=k404.get0 cu;refine⟨⟨vc cu 0,vc cu 1,vc cu 2,vc cu 3,vc cu 4,vc cu 5⟩,?_⟩;refine eF (t:=(1,0,0,0,none,some ⟨bb,0,none⟩)) fun h406 k406=>?_
      have s406:=k406.size;refine cn fun h408 k408=>?_
      have s408:=k408.size;refine bo (c:=dZ iP) (vs:=dZ (0,x.k0,x.k1,x.mask,some ⟨ba,0,none⟩,none)) (k408.get0 (k406.get0 (k404.get0 (k402.get0 b380)))) rfl fun h409 c409 hu409=>?_
      have s409:=hu409.size;refine bo (c:=dZ iP) (vs:=dZ (1,0,0,0,none,some ⟨bb,0,none⟩)) (hu409.oth (k408.get0 (k406.get0 (k404.get0 b402))) (by omega)) rfl fun h410 c410 hu410=>?_
      have s410:=hu410.size;exact hR _ _ ⟨_,_,rfl,(hu410.oth c409 (by omega)),c410,(((((((k303.tr k380).tr k402).tr k404).tr k406).tr k408).own hu409 (by omega)).own hu410 (by omega))⟩
    ·refine aG fun h411 b411 k411=>?_
     have s411:=k411.size;have z411:=aJ b411;have cu:=k411.get0 cu;refine⟨⟨vc cu 0,vc cu 1,vc cu 2,vc cu 3,vc cu 4,vc cu 5⟩,?_⟩;have ca:=k411.get0 ca;refine⟨⟨vc ca 0,vc ca 1,vc ca 2⟩,?_⟩;constructor
     ·refine gC (x:=x) fun h413 k413=>?_
      have s413:=k413.size;have cu:=k413.get0 cu;refine⟨⟨vc cu 0,vc cu 1,vc cu 2,vc cu 3,vc cu 4,vc cu 5⟩,?_⟩;constructor
      ·refine eF (t:=(1,0,0,0,none,some ⟨bb,0,none⟩)) fun h415 k415=>?_
       have s415:=k415.size;constructor
       ·refine cn fun h417 k417=>?_
        have s417:=k417.size;refine aG fun h418 b418 k418=>?_
        have s418:=k418.size;have z418:=aJ b418;refine bo (c:=dZ iP) (vs:=dZ (0,x.k0,x.k1,x.mask,some ⟨ba,0,none⟩,none)) b418 rfl fun h419 c419 hu419=>?_
        have s419:=hu419.size;refine bo (c:=dZ iP) (vs:=dZ (1,0,0,0,none,some ⟨bb,0,none⟩)) (hu419.oth (k418.get0 (k417.get0 (k415.get0 (k413.get0 b411)))) (by omega)) rfl fun h420 c420 hu420=>?_
        have s420:=hu420.size;exact hR _ _ ⟨_,_,rfl,(hu420.oth c419 (by omega)),c420,(((((((k303.tr k411).tr k413).tr k415).tr k417).tr k418).own hu419 (by omega)).own hu420 (by omega))⟩
       ·refine aG fun h421 b421 k421=>?_
        have s421:=k421.size;have z421:=aJ b421;refine cn fun h423 k423=>?_
        have s423:=k423.size;refine bo (c:=dZ iP) (vs:=dZ (0,x.k0,x.k1,x.mask,some ⟨ba,0,none⟩,none)) (k423.get0 b421) rfl fun h424 c424 hu424=>?_
        have s424:=hu424.size;refine bo (c:=dZ iP) (vs:=dZ (1,0,0,0,none,some ⟨bb,0,none⟩)) (hu424.oth (k423.get0 (k421.get0 (k415.get0 (k413.get0 b411)))) (by omega)) rfl fun h425 c425 hu425=>?_
        have s425:=hu425.size;exact hR _ _ ⟨_,_,rfl,(hu425.oth c424 (by omega)),c425,(((((((k303.tr k411).tr k413).tr k415).tr k421).tr k423).own hu424 (by omega)).own hu425 (by omega))⟩
      ·refine aG fun h426 b426 k426=>?_
       have s426:=k426.size;have z426:=aJ b426;have cu:=k426.get0 cu;refine⟨⟨vc cu 0,vc cu 1,vc cu 2,vc cu 3,vc cu 4,vc cu 5⟩,?_⟩;refine eF (t:=(1,0,0,0,none,some ⟨bb,0,none⟩)) fun h428 k428=>?_
       have s428:=k428.size;refine cn fun h430 k430=>?_
       have s430:=k430.size;refine bo (c:=dZ iP) (vs:=dZ (0,x.k0,x.k1,x.mask,some ⟨ba,0,none⟩,none)) (k430.get0 (k428.get0 b426)) rfl fun h431 c431 hu431=>?_
       have s431:=hu431.size;refine bo (c:=dZ iP) (vs:=dZ (1,0,0,0,none,some ⟨bb,0,none⟩)) (hu431.oth (k430.get0 (k428.get0 (k426.get0 (k413.get0 b411)))) (by omega)) rfl fun h432 c432 hu432=>?_
       have s432:=hu432.size;exact hR _ _ ⟨_,_,rfl,(hu432.oth c431 (by omega)),c432,(((((((k303.tr k411).tr k413).tr k426).tr k428).tr k430).own hu431 (by omega)).own hu432 (by omega))⟩
     ·refine aG fun h433 b433 k433=>?_
      have s433:=k433.size;have z433:=aJ b433;have cu:=k433.get0 cu;refine⟨⟨vc cu 0,vc cu 1,vc cu 2,vc cu 3,vc cu 4,vc cu 5⟩,?_⟩;have ca:=k433.get0 ca;refine⟨⟨vc ca 0,vc ca 1,vc ca 2⟩,?_⟩;refine gC (x:=x) fun h435 k435=>?_
      have s435:=k435.size;have cu:=k435.get0 cu;refine⟨⟨vc cu 0,vc cu 1,vc cu 2,vc cu 3,vc cu 4,vc cu 5⟩,?_⟩;refine eF (t:=(1,0,0,0,none,some ⟨bb,0,none⟩)) fun h437 k437=>?_
      have s437:=k437.size;refine cn fun h439 k439=>?_
      have s439:=k439.size;refine bo (c:=dZ iP) (vs:=dZ (0,x.k0,x.k1,x.mask,some ⟨ba,0,none⟩,none)) (k439.get0 (k437.get0 (k435.get0 b433))) rfl fun h440 c440 hu440=>?_
      have s440:=hu440.size;refine bo (c:=dZ iP) (vs:=dZ (1,0,0,0,none,some ⟨bb,0,none⟩)) (hu440.oth (k439.get0 (k437.get0 (k435.get0 (k433.get0 b411)))) (by omega)) rfl fun h441 c441 hu441=>?_
      have s441:=hu441.size;exact hR _ _ ⟨_,_,rfl,(hu441.oth c440 (by omega)),c441,(((((((k303.tr k411).tr k433).tr k435).tr k437).tr k439).own hu440 (by omega)).own hu441 (by omega))⟩
  ·constructor
   ·refine aG fun h442 b442 k442=>?_
    have s442:=k442.size;have z442:=aJ b442;have cu:=k442.get0 cu;refine⟨⟨vc cu 0,vc cu 1,vc cu 2,vc cu 3,vc cu 4,vc cu 5⟩,?_⟩;have ct:=k442.get0 ct;refine⟨⟨vc ct 0,vc ct 1,vc ct 2,vc ct 3,vc ct 4,vc ct 5⟩,?_⟩;have ca:=k442.get0 ca;refine⟨⟨vc ca 0,vc ca 1,vc ca 2⟩,?_⟩;constructor
    ·refine nb (x:=x) (TrieAt.upd0 k442 ta) fun h444 k444=>?_
     have s444:=k444.size;have cu:=k444.get0 cu;refine⟨⟨vc cu 0,vc cu 1,vc cu 2,vc cu 3,vc cu 4,vc cu 5⟩,?_⟩;have ca:=k444.get0 ca;refine⟨⟨vc ca 0,vc ca 1,vc ca 2⟩,?_⟩;constructor
     ·refine gC (x:=x) fun h446 k446=>?_
      have s446:=k446.size;have cu:=k446.get0 cu;refine⟨⟨vc cu 0,vc cu 1,vc cu 2,vc cu 3,vc cu 4,vc cu 5⟩,?_⟩;constructor
      ·refine eF (t:=(1,0,0,0,none,some ⟨bb,0,none⟩)) fun h448 k448=>?_
       have s448:=k448.size;constructor
       ·refine cn fun h450 k450=>?_
        have s450:=k450.size;refine aG fun h451 b451 k451=>?_
        have s451:=k451.size;have z451:=aJ b451;refine bo (c:=dZ iP) (vs:=dZ (0,x.k0,x.k1,x.mask,some ⟨ba,0,none⟩,none)) (k451.get0 (k450.get0 (k448.get0 (k446.get0 (k444.get0 b442))))) rfl fun h452 c452 hu452=>?_
        have s452:=hu452.size;refine bo (c:=dZ iP) (vs:=dZ (1,0,0,0,none,some ⟨bb,0,none⟩)) (hu452.oth b451 (by omega)) rfl fun h453 c453 hu453=>?_
        have s453:=hu453.size;exact hR _ _ ⟨_,_,rfl,(hu453.oth c452 (by omega)),c453,(((((((k442.tr k444).tr k446).tr k448).tr k450).tr k451).own hu452 (by omega)).own hu453 (by omega))⟩
       ·refine aG fun h454 b454 k454=>?_
        have s454:=k454.size;have z454:=aJ b454;refine cn fun h456 k456=>?_
        have s456:=k456.size;refine bo (c:=dZ iP) (vs:=dZ (0,x.k0,x.k1,x.mask,some ⟨ba,0,none⟩,none)) (k456.get0 (k454.get0 (k448.get0 (k446.get0 (k444.get0 b442))))) rfl fun h457 c457 hu457=>?_
        have s457:=hu457.size;refine bo (c:=dZ iP) (vs:=dZ (1,0,0,0,none,some ⟨bb,0,none⟩)) (hu457.oth (k456.get0 b454) (by omega)) rfl fun h458 c458 hu458=>?_
        have s458:=hu458.size;exact hR _ _ ⟨_,_,rfl,(hu458.oth c457 (by omega)),c458,(((((((k442.tr k444).tr k446).tr k448).tr k454).tr k456).own hu457 (by omega)).own hu458 (by omega))⟩
      ·refine aG fun h459 b459 k459=>?_
       have s459:=k459.size;have z459:=aJ b459;have cu:=k459.get0 cu;refine⟨⟨vc cu 0,vc cu 1,vc cu 2,vc cu 3,vc cu 4,vc cu 5⟩,?_⟩;refine eF (t:=(1,0,0,0,none,some ⟨bb,0,none⟩)) fun h461 k461=>?_
       have s461:=k461.size;refine cn fun h463 k463=>?_
       have s463:=k463.size;refine bo (c:=dZ iP) (vs:=dZ (0,x.k0,x.k1,x.mask,some ⟨ba,0,none⟩,none)) (k463.get0 (k461.get0 (k459.get0 (k446.get0 (k444.get0 b442))))) rfl fun h464 c464 hu464=>?_
       have s464:=hu464.size;refine bo (c:=dZ iP) (vs:=dZ (1,0,0,0,none,some ⟨bb,0,none⟩)) (hu464.oth (k463.get0 (k461.get0 b459)) (by omega)) rfl fun h465 c465 hu465=>?_
       have s465:=hu465.size;exact hR _ _ ⟨_,_,rfl,(hu465.oth c464 (by omega)),c465,(((((((k442.tr k444).tr k446).tr k459).tr k461).tr k463).own hu464 (by omega)).own hu465 (by omega))⟩
     ·refine aG fun h466 b466 k466=>?_
      have s466:=k466.size;have z466:=aJ b466;have cu:=k466.get0 cu;refine⟨⟨vc cu 0,vc cu 1,vc cu 2,vc cu 3,vc cu 4,vc cu 5⟩,?_⟩;have ca:=k466.get0 ca;refine⟨⟨vc ca 0,vc ca 1,vc ca 2⟩,?_⟩;refine gC (x:=x) fun h468 k468=>?_
      have s468:=k468.size;have cu:=k468.get0 cu;refine⟨⟨vc cu 0,vc cu 1,vc cu 2,vc cu 3,vc cu 4,vc cu 5⟩,?_⟩;refine eF (t:=(1,0,0,0,none,some ⟨bb,0,none⟩)) fun h470 k470=>?_
      have s470:=k470.size;refine cn fun h472 k472=>?_
      have s472:=k472.size;refine bo (c:=dZ iP) (vs:=dZ (0,x.k0,x.k1,x.mask,some ⟨ba,0,none⟩,none)) (k472.get0 (k470.get0 (k468.get0 (k466.get0 (k444.get0 b442))))) rfl fun h473 c473 hu473=>?_
      have s473:=hu473.size;refine bo (c:=dZ iP) (vs:=dZ (1,0,0,0,none,some ⟨bb,0,none⟩)) (hu473.oth (k472.get0 (k470.get0 (k468.get0 b466))) (by omega)) rfl fun h474 c474 hu474=>?_
      have s474:=hu474.size;exact hR _ _ ⟨_,_,rfl,(hu474.oth c473 (by omega)),c474,(((((((k442.tr k444).tr k466).tr k468).tr k470).tr k472).own hu473 (by omega)).own hu474 (by omega))⟩
    ·refine aG fun h475 b475 k475=>?_
     have s475:=k475.size;have z475:=aJ b475;have cu:=k475.get0 cu;refine⟨⟨vc cu 0,vc cu 1,vc cu 2,vc cu 3,vc cu 4,vc cu 5⟩,?_⟩;have ct:=k475.get0 ct;refine⟨⟨vc ct 0,vc ct 1,vc ct 2,vc ct 3,vc ct 4,vc ct 5⟩,?_⟩;have ca:=k475.get0 ca;refine⟨⟨vc ca 0,vc ca 1,vc ca 2⟩,?_⟩;refine nb (x:=x) (TrieAt.upd0 (k442.tr k475) ta) fun h477 k477=>?_
     have s477:=k477.size;have cu:=k477.get0 cu;refine⟨⟨vc cu 0,vc cu 1,vc cu 2,vc cu 3,vc cu 4,vc cu 5⟩,?_⟩;have ca:=k477.get0 ca;refine⟨⟨vc ca 0,vc ca 1,vc ca 2⟩,?_⟩;refine gC (x:=x) fun h479 k479=>?_
     have s479:=k479.size;have cu:=k479.get0 cu;refine⟨⟨vc cu 0,vc cu 1,vc cu 2,vc cu 3,vc cu 4,vc cu 5⟩,?_⟩;refine eF (t:=(1,0,0,0,none,some ⟨bb,0,none⟩)) fun h481 k481=>?_
     have s481:=k481.size;refine cn fun h483 k483=>?_
     have s483:=k483.size;refine bo (c:=dZ iP) (vs:=dZ (0,x.k0,x.k1,x.mask,some ⟨ba,0,none⟩,none)) (k483.get0 (k481.get0 (k479.get0 (k477.get0 (k475.get0 b442))))) rfl fun h484 c484 hu484=>?_
     have s484:=hu484.size;refine bo (c:=dZ iP) (vs:=dZ (1,0,0,0,none,some ⟨bb,0,none⟩)) (hu484.oth (k483.get0 (k481.get0 (k479.get0 (k477.get0 b475)))) (by omega)) rfl fun h485 c485 hu485=>?_
     have s485:=hu485.size;exact hR _ _ ⟨_,_,rfl,(hu485.oth c484 (by omega)),c485,(((((((k442.tr k475).tr k477).tr k479).tr k481).tr k483).own hu484 (by omega)).own hu485 (by omega))⟩
   ·refine aG fun h486 b486 k486=>?_
    have s486:=k486.size;have z486:=aJ b486;have cu:=k486.get0 cu;refine⟨⟨vc cu 0,vc cu 1,vc cu 2,vc cu 3,vc cu 4,vc cu 5⟩,?_⟩;have ct:=k486.get0 ct;refine⟨⟨vc ct 0,vc ct 1,vc ct 2,vc ct 3,vc ct 4,vc ct 5⟩,?_⟩;have ca:=k486.get0 ca;refine⟨⟨vc ca 0,vc ca 1,vc ca 2⟩,?_⟩;constructor
    ·refine nb (x:=x) (TrieAt.upd0 k486 ta) fun h488 k488=>?_
     have s488:=k488.size;have cu:=k488.get0 cu;refine⟨⟨vc cu 0,vc cu 1,vc cu 2,vc cu 3,vc cu 4,vc cu 5⟩,?_⟩;have ca:=k488.get0 ca;refine⟨⟨vc ca 0,vc ca 1,vc ca 2⟩,?_⟩;constructor
     ·refine gC (x:=x) fun h490 k490=>?_
      have s490:=k490.size;have cu:=k490.get0 cu;refine⟨⟨vc cu 0,vc cu 1,vc cu 2,vc cu 3,vc cu 4,vc cu 5⟩,?_⟩;constructor
      ·refine eF (t:=(1,0,0,0,none,some ⟨bb,0,none⟩)) fun h492 k492=>?_
       have s492:=k492.size;constructor
       ·refine cn fun h494 k494=>?_
        have s494:=k494.size;refine aG fun h495 b495 k495=>?_
        have s495:=k495.size;have z495:=aJ b495;refine bo (c:=dZ iP) (vs:=dZ (0,x.k0,x.k1,x.mask,some ⟨ba,0,none⟩,none)) b495 rfl fun h496 c496 hu496=>?_
        have s496:=hu496.size;refine bo (c:=dZ iP) (vs:=dZ (1,0,0,0,none,some ⟨bb,0,none⟩)) (hu496.oth (k495.get0 (k494.get0 (k492.get0 (k490.get0 (k488.get0 b486))))) (by omega)) rfl fun h497 c497 hu497=>?_
        have s497:=hu497.size;exact hR _ _ ⟨_,_,rfl,(hu497.oth c496 (by omega)),c497,(((((((k486.tr k488).tr k490).tr k492).tr k494).tr k495).own hu496 (by omega)).own hu497 (by omega))⟩
       ·refine aG fun h498 b498 k498=>?_
        have s498:=k498.size;have z498:=aJ b498;refine cn fun h500 k500=>?_
        have s500:=k500.size;refine bo (c:=dZ iP) (vs:=dZ (0,x.k0,x.k1,x.mask,some ⟨ba,0,none⟩,none)) (k500.get0 b498) rfl fun h501 c501 hu501=>?_
        have s501:=hu501.size;refine bo (c:=dZ iP) (vs:=dZ (1,0,0,0,none,some ⟨bb,0,none⟩)) (hu501.oth (k500.get0 (k498.get0 (k492.get0 (k490.get0 (k488.get0 b486))))) (by omega)) rfl fun h502 c502 hu502=>?_
        have s502:=hu502.size;exact hR _ _ ⟨_,_,rfl,(hu502.oth c501 (by omega)),c502,(((((((k486.tr k488).tr k490).tr k492).tr k498).tr k500).own hu501 (by omega)).own hu502 (by omega))⟩
      ·refine aG fun h503 b503 k503=>?_
       have s503:=k503.size;have z503:=aJ b503;have cu:=k503.get0 cu;refine⟨⟨vc cu 0,vc cu 1,vc cu 2,vc cu 3,vc cu 4,vc cu 5⟩,?_⟩;refine eF (t:=(1,0,0,0,none,some ⟨bb,0,none⟩)) fun h505 k505=>?_
       have s505:=k505.size;refine cn fun h507 k507=>?_
       have s507:=k507.size;refine bo (c:=dZ iP) (vs:=dZ (0,x.k0,x.k1,x.mask,some ⟨ba,0,none⟩,none)) (k507.get0 (k505.get0 b503)) rfl fun h508 c508 hu508=>?_
       have s508:=hu508.size;refine bo (c:=dZ iP) (vs:=dZ (1,0,0,0,none,some ⟨bb,0,none⟩)) (hu508.oth (k507.get0 (k505.get0 (k503.get0 (k490.get0 (k488.get0 b486))))) (by omega)) rfl fun h509 c509 hu509=>?_
       have s509:=hu509.size;exact hR _ _ ⟨_,_,rfl,(hu509.oth c508 (by omega)),c509,(((((((k486.tr k488).tr k490).tr k503).tr k505).tr k507).own hu508 (by omega)).own hu509 (by omega))⟩
     ·refine aG fun h510 b510 k510=>?_
      have s510:=k510.size;have z510:=aJ b510;have cu:=k510.get0 cu;refine⟨⟨vc cu 0,vc cu 1,vc cu 2,vc cu 3,vc cu 4,vc cu 5⟩,?_⟩;have ca:=k510.get0 ca;refine⟨⟨vc ca 0,vc ca 1,vc ca 2⟩,?_⟩;refine gC (x:=x) fun h512 k512=>?_
      have s512:=k512.size;have cu:=k512.get0 cu;refine⟨⟨vc cu 0,vc cu 1,vc cu 2,vc cu 3,vc cu 4,vc cu 5⟩,?_⟩;refine eF (t:=(1,0,0,0,none,some ⟨bb,0,none⟩)) fun h514 k514=>?_
      have s514:=k514.size;refine cn fun h516 k516=>?_
      have s516:=k516.size;refine bo (c:=dZ iP) (vs:=dZ (0,x.k0,x.k1,x.mask,some ⟨ba,0,none⟩,none)) (k516.get0 (k514.get0 (k512.get0 b510))) rfl fun h517 c517 hu517=>?_
      have s517:=hu517.size;refine bo (c:=dZ iP) (vs:=dZ (1,0,0,0,none,some ⟨bb,0,none⟩)) (hu517.oth (k516.get0 (k514.get0 (k512.get0 (k510.get0 (k488.get0 b486))))) (by omega)) rfl fun h518 c518 hu518=>?_
      have s518:=hu518.size;exact hR _ _ ⟨_,_,rfl,(hu518.oth c517 (by omega)),c518,(((((((k486.tr k488).tr k510).tr k512).tr k514).tr k516).own hu517 (by omega)).own hu518 (by omega))⟩
    ·refine aG fun h519 b519 k519=>?_
     have s519:=k519.size;have z519:=aJ b519;have cu:=k519.get0 cu;refine⟨⟨vc cu 0,vc cu 1,vc cu 2,vc cu 3,vc cu 4,vc cu 5⟩,?_⟩;have ct:=k519.get0 ct;refine⟨⟨vc ct 0,vc ct 1,vc ct 2,vc ct 3,vc ct 4,vc ct 5⟩,?_⟩;have ca:=k519.get0 ca;refine⟨⟨vc ca 0,vc ca 1,vc ca 2⟩,?_⟩;refine nb (x:=x) (TrieAt.upd0 (k486.tr k519) ta) fun h521 k521=>?_
     have s521:=k521.size;have cu:=k521.get0 cu;refine⟨⟨vc cu 0,vc cu 1,vc cu 2,vc cu 3,vc cu 4,vc cu 5⟩,?_⟩;have ca:=k521.get0 ca;refine⟨⟨vc ca 0,vc ca 1,vc ca 2⟩,?_⟩;refine gC (x:=x) fun h523 k523=>?_
     have s523:=k523.size;have cu:=k523.get0 cu;refine⟨⟨vc cu 0,vc cu 1,vc cu 2,vc cu 3,vc cu 4,vc cu 5⟩,?_⟩;refine eF (t:=(1,0,0,0,none,some ⟨bb,0,none⟩)) fun h525 k525=>?_
     have s525:=k525.size;refine cn fun h527 k527=>?_
     have s527:=k527.size;refine bo (c:=dZ iP) (vs:=dZ (0,x.k0,x.k1,x.mask,some ⟨ba,0,none⟩,none)) (k527.get0 (k525.get0 (k523.get0 (k521.get0 b519)))) rfl fun h528 c528 hu528=>?_
     have s528:=hu528.size;refine bo (c:=dZ iP) (vs:=dZ (1,0,0,0,none,some ⟨bb,0,none⟩)) (hu528.oth (k527.get0 (k525.get0 (k523.get0 (k521.get0 (k519.get0 b486))))) (by omega)) rfl fun h529 c529 hu529=>?_
     have s529:=hu529.size;exact hR _ _ ⟨_,_,rfl,(hu529.oth c528 (by omega)),c529,(((((((k486.tr k519).tr k521).tr k523).tr k525).tr k527).own hu528 (by omega)).own hu529 (by omega))⟩
 rintro _ h531 ⟨pb,pc,rfl,cb,cc,k531⟩;refine aG fun h532 cz kz=>?_
 have k532:=k531.tr kz;have ca2:=k532.get0 ca;refine⟨_,vc ca2 0,_,vc ca2 1,_,vc ca2 2,?_⟩;have new:∀{K:Tr×Int→ad→Prop},(∀h' t (e:Int),(kind=0∨kind=1→e=0)→(¬(kind=0∨kind=1)→e=11)→Upd No h532 h'→K (t,e) h')→HC PG mS [.int .i64 kind,.agg #[.int .u64 x.k0,.int .u64 x.k1,.int .u64 x.mask]] [.agg [.int .i64,.int .u64,.int .u64,.int .u64,.ptr,.ptr],.c (.int .i64)] K h532:=fun hk=>by
  by_cases hkd:kind=0∨kind=1
  ·exact EK (W:=No) (x:=x) (fun _ h=>h.elim) hkd fun h' t _ k=>hk h' t 0 (fun _=>rfl) (fun h=>absurd hkd h) k
  ·exact HX (x:=x) (fun e=>hkd (.inl e)) (fun e=>hkd (.inr e)) fun h' k=>hk h' _ 11 (fun h=>absurd h hkd) (fun _=>rfl) k
 refine new fun h537 tn e he0 he11 k537=>?_
 refine Nl (t:=tn) fun h539 _ k539=>?_
 have k2:=k537.tr k539;have cz2:=k2.get0 cz;refine⟨_,vc cz2 0,_,vc cz2 1,_,vc cz2 2,_,vc cz2 3,_,vc cz2 4,_,vc cz2 5,?_⟩;refine Lj (⟨#[107]⟩,⟨#[]⟩) (by decide) (by decide) fun h547 w iw k547=>?_
 refine Nl (t:=w) fun h549 cw k549=>?_
 have k3':=(k2.tr k547).tr k549;have k5:=kz.tr k3';have k6:=k531.tr k5;have d1:=k5.get0 cb;have d2:=k6.get0 cr;obtain⟨sr,er,hsr,hcr⟩:=j21;have j21:RefIs No h21 0 x r (nf l):=⟨sr,er,hsr,hcr⟩;obtain⟨sq,eq,hsq,hcq⟩:=j21';have j21':RefIs No h21 1 x q (nf l):=⟨sq,eq,hsq,hcq⟩;have tb9:=tb.upd (k021.tr k6) id;refine⟨_,vc d1 0,_,vc d1 1,_,vc d1 2,_,vc d1 3,_,vc d1 4,_,vc d1 5,_,vc d2 0,_,vc d2 1,_,vc d2 2,_,vc d2 3,r.2.2.2.2,vc d2 4,?_⟩
 refine rW tb9 (i21.upd0 k6) (j21.upd0 k6) fw.up fw.fits (by have:=fw.len;omega) fun h562 k562=>aw.2 ?_
 have e1:=k562.get0 (k5.get0 cc);have e2:=(k6.tr k562).get0 cq;refine⟨_,vc e1 0,_,vc e1 1,_,vc e1 2,_,vc e1 3,_,vc e1 4,_,vc e1 5,_,vc e2 0,_,vc e2 1,_,vc e2 2,_,vc e2 3,q.2.2.2.2,vc e2 4,?_⟩;refine rW (tb9.upd k562 id) (i21'.upd0 (k6.tr k562)) (j21'.upd0 (k6.tr k562)) fw.up fw.fits (by have:=fw.len;omega) fun h575 k575=>aw.2 ?_
 have k7:=(k6.tr k562).tr k575;have e3:=k7.get0 ct;have e4:=(k562.tr k575).get0 d1;refine⟨_,vc e3 0,_,vc e3 1,_,vc e3 2,_,vc e3 3,_,vc e3 4,_,vc e3 5,_,vc e4 0,_,vc e4 1,_,vc e4 2,_,vc e4 3,_,vc e4 4,_,vc e4 5,?_⟩;refine Ki (i21.upd0 k7) (i21.upd0 k7) fun h589 k589=>?_
 rw[decide_eq_true rfl];have k8':=k7.tr k589;have e5:=k8'.get0 cu;have e6:=(k575.tr k589).get0 e1;refine aw.2 ⟨_,vc e5 0,_,vc e5 1,_,vc e5 2,_,vc e5 3,_,vc e5 4,_,vc e5 5,_,vc e6 0,_,vc e6 1,_,vc e6 2,_,vc e6 3,_,vc e6 4,_,vc e6 5,?_⟩;refine Ki (i21'.upd0 k8') (i21'.upd0 k8') fun h603 k603=>?_
 rw[decide_eq_true rfl];have k9':=k8'.tr k603;have e7:=k9'.get0 ca;refine aw.2 ⟨_,vc e7 0,_,vc e7 1,_,vc e7 2,_,vc e7 0,_,vc e7 1,_,vc e7 2,?_⟩;refine zF (W:=No) (x:=x) (r:=none) (l:= []) (.inl ⟨rfl,rfl⟩) (fun _ h=>h.elim) fun h611 v iv k611=>?_
 have e8:=k611.get0 e7;refine⟨⟨vc e8 0,vc e8 1,vc e8 2⟩,E4 fun h613 k613=>?_⟩
 have f0:dD ([]:List Pr)∧Fit ([]:List Pr)∧([]:List Pr).length≤60000:=⟨cE,fun p hp=>(by cases hp),Nat.zero_le _⟩
 have k10':=(k9'.tr k611).tr k613;have tb10:=tb.upd (k021.tr k10') id;refine rW (r:=(0,x.k0,x.k1,x.mask,⟨none,0,0⟩)) tb10 (iv.upd0 k613) ⟨⟨none,0,0⟩,by simp[hx],Sl.nil (W:=No) fO,ao _⟩ f0.1 f0.2.1 f0.2.2 fun h615 k615=>aw.2 ?_
 refine zE (W:=No) (x:=x) (r:=none) (l:= []) (.inl ⟨rfl,rfl⟩) (fun _ h=>h.elim) fun h617 v2 iv2 k617=>?_
 have k11:=(k10'.tr k615).tr k617;have tb11:=tb.upd (k021.tr k11) id;refine rW (r:=(1,0,0,0,⟨none,0,0⟩)) tb11 iv2 ⟨⟨none,0,0⟩,by simp[hx],Sl.nil (W:=No) fO,ao _⟩ f0.1 f0.2.1 f0.2.2 fun h619 k619=>aw.2 ?_
 have k549619:Upd No h549 h619:=((((((((k562.tr k575).tr k589).tr k603).tr k611).tr k613).tr k615).tr k617).tr k619);have cz3:=(k3'.tr k549619).get0 cz;have k12:=k11.tr k619;refine⟨_,vc cz3 0,_,vc cz3 1,_,vc cz3 2,_,vc cz3 3,_,vc cz3 4,_,vc cz3 5,?_⟩;refine BK (W':=No) (x:=⟨0,0,0⟩) (r:=PF) (HT (tb.upd (k021.tr k12) id)) ⟨⟨none,0,0⟩,by simp[hx],Sl.nil fO,ao _⟩ f0.1 f0.2.1 f0.2.2 fun h627 k627=>aw.2 (aw.2 ?_)
 have cw2:=(k549619.tr k627).get0 cw;refine⟨_,vc cw2 0,_,vc cw2 1,_,vc cw2 2,_,vc cw2 3,_,vc cw2 4,_,vc cw2 5,aG fun h634 b634 k634=>?_⟩
 have cw3:=k634.get0 cw2;refine⟨⟨vc cw3 0,vc cw3 1,vc cw3 2,vc cw3 3,vc cw3 4,vc cw3 5⟩,?_⟩;have sl:Sl eC 2 No h634 ⟨some ⟨h627.size,0,none⟩,1,1⟩ [((⟨#[107]⟩:ByteArray),(⟨#[]⟩:ByteArray))]:=OwnS.sl (t:=bS) (M:=fun _=>True) ⟨rfl,fO,ao _,.inr ⟨h627.size,[],rfl,trivial,by simpa[eC]using b634,rfl⟩⟩ fun _ _ _ h=>h
 have kw:Upd No h547 h634:=((k549.tr k549619).tr k627).tr k634;refine rW (r:=(0,0,0,0,⟨some ⟨h627.size,0,none⟩,1,1⟩)) (tb.upd (((k021.tr k12).tr k627).tr k634) id) (iw.upd0 kw) ⟨_,by simp[hx],sl,ao _⟩ (List.pairwise_singleton ..) (fun p hp=>by rw[List.mem_singleton.1 hp];decide) (by simp) fun h636 k636=>aw.2 ?_
 have done:true=true∧Upd No h h636:=⟨rfl,((((k021.tr k12).tr k627).tr k634).tr k636)⟩;by_cases h0:kind=0
 ·rw[he0 (.inl h0),h0]
  exact aw.2 (aw.2 (aw.2 done))
 ·rw[show(kind==(0:Int))=false by simpa using h0]
  refine al.2 ?_;by_cases hk1:kind=1
  ·rw[he0 (.inr hk1),hk1]
   exact aw.2 (aw.2 done)
  ·rw[he11 (fun h=>h.elim h0 hk1),show(kind==(1:Int))=false by simpa using hk1]
   exact aw.2 (al.2 done)
end Go.Proofs
