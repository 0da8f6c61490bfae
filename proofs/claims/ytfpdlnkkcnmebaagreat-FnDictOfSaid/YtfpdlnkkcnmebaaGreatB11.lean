import Derived.Test.YtfpdlnkkcnmebaaGreatWd
set_option maxHeartbeats 4000000
set_option linter.unusedVariables false
set_option linter.unusedSimpArgs false
set_option linter.unusedSectionVars false
namespace Go.Proofs.YtfpdlnkkcnmebaaGreat
open Go Go.Eng
attribute [local irreducible] V VO VQ VY Quiet QR jI mK Rng qE qA pX
def gI2(c:gK):Option (pM × gK):=
lt_ (vZ [115,101,108,102]) fun x1=>
bnd (pK c [[115,104,111,119],[101,113],[97,100,100]]) fun x2=>
bnd (uS x2.2 3) fun y=>
bnd (gFo ) fun x4=>
bnd (uS y.2 2) fun x5=>
bnd ((cnd x5.1 (
bnd (gFo ) fun x9=>
lt_ (gJn [120]) fun ap=>
lt_ (gFr 1) fun aq=>
bnd (gI0 10 [43] [(gY.mk 5 x2.1 [109] 0 (gB.mk 0 [] []) [ap] []),aq]) fun ah=>
gd ([(jT.mk [109] [] x4 false [] (gY.mk 0 [] [] 0 (gB.mk 0 [] []) [] []))].length+[(jT.mk [116,119,105,99,101] [x1] x9 true [[120],[121]] ah)].length≤4294967296) (
(some ([(jT.mk [109] [] x4 false [] (gY.mk 0 [] [] 0 (gB.mk 0 [] []) [] []))]++[(jT.mk [116,119,105,99,101] [x1] x9 true [[120],[121]] ah)])))) (
(some [(jT.mk [109] [] x4 false [] (gY.mk 0 [] [] 0 (gB.mk 0 [] []) [] []))])))) fun q=>
bnd (uS x5.2 3) fun ag=>
(cnd ag.1 (
bnd (kW ag.2 12) fun f=>
(cnd (f.1==0) (
(some ((pM.mk x2.1 [[111,114,100]] true y.1 q),f.2))) (
(cnd (f.1==1) (
bnd (pK f.2 [[],[105,110,116],[65]]) fun ai=>
(some ((pM.mk ai.1 [[111,114,100]] false y.1 q),ai.2))) (
(cnd (f.1==2) (
bnd (pK f.2 [[115,101,108,102],[98]]) fun aj=>
lt_ (vZ aj.1) fun ar=>
bnd (at? q 0) fun ab=>
(some ((pM.mk x2.1 [[111,114,100]] false y.1 (q.set 0 (jT.mk ab.name ab.params ar ab.hasDefault ab.vars ab.body))),aj.2))) (
(cnd (f.1==3) (
bnd (at? q 0) fun ac=>
(some ((pM.mk x2.1 [[111,114,100]] false y.1 (q.set 0 (jT.mk ac.name ac.params ac.result true ac.vars ac.body))),f.2))) (
(cnd (f.1==4) (
gd (([[111,114,100]]:LS).length+([[111,114,100]]:LS).length≤4294967296) (
(some ((pM.mk x2.1 ([[111,114,100]]++[[111,114,100]]) false y.1 q),f.2)))) (
(cnd (f.1==5) (
bnd (at? q 0) fun ak=>
gd (q.length+[ak].length≤4294967296) (
(some ((pM.mk x2.1 [[111,114,100]] false y.1 (q++[ak])),f.2)))) (
(some ((pM.mk x2.1 [[111,114,100]] false y.1 q),f.2))))))))))))))) (
bnd (kW ag.2 12) fun h=>
(cnd (h.1==0) (
(some ((pM.mk x2.1 [] true y.1 q),h.2))) (
(cnd (h.1==1) (
bnd (pK h.2 [[],[105,110,116],[65]]) fun al=>
(some ((pM.mk al.1 [] false y.1 q),al.2))) (
(cnd (h.1==2) (
bnd (pK h.2 [[115,101,108,102],[98]]) fun am=>
lt_ (vZ am.1) fun au=>
bnd (at? q 0) fun ad=>
(some ((pM.mk x2.1 [] false y.1 (q.set 0 (jT.mk ad.name ad.params au ad.hasDefault ad.vars ad.body))),am.2))) (
(cnd (h.1==3) (
bnd (at? q 0) fun ae=>
(some ((pM.mk x2.1 [] false y.1 (q.set 0 (jT.mk ae.name ae.params ae.result true ae.vars ae.body))),h.2))) (
(cnd (h.1==4) (
gd (([[111,114,100]]:LS).length≤4294967296) (
(some ((pM.mk x2.1 [[111,114,100]] false y.1 q),h.2)))) (
(cnd (h.1==5) (
bnd (at? q 0) fun an=>
gd (q.length+[an].length≤4294967296) (
(some ((pM.mk x2.1 [] false y.1 (q++[an])),h.2)))) (
(some ((pM.mk x2.1 [] false y.1 q),h.2))))))))))))))))
theorem gSs(c:gK){r:pM × gK}(h:gI2 c=some r):Go.Eng.Spec Tryz.prog 100 [.ptr 0 0] [bCu c.b c.i c.h] (fun sv Lo=>sv=.d (gLb r.1)∧Lo=[bCu r.2.b r.2.i r.2.h]):=by
 obtain⟨f1,f2,f3⟩:=c;unfold gI2 at h;refine kJ 1 Tryz.func100 rfl (by kernel_rfl) rfl rfl fun A _=>?_;refine goL ?_;obtain⟨⟨al,am,an⟩,f4,h⟩:=uK h;have sx1:=gCl [115,101,108,102];rw [f4] at sx1;refine jP (gI (sx1)) ?_;refine yQ (us:=gT [[115,104,111,119],[101,113],[97,100,100]]) ?_;refine kS 3 rfl rfl ?_;obtain⟨⟨ao,⟨fe,ff,fg⟩⟩,f5,h⟩:=gJ h;refine mI 0 (kZ (gK.mk f1 f2 f3) [[115,104,111,119],[101,113],[97,100,100]] f5) ?_;refine goL ?_;obtain⟨⟨br,⟨fh,fi,fj⟩⟩,f6,h⟩:=gJ h;refine mI 0 (wB (gK.mk fe ff fg) 3 f6) ?_;obtain⟨⟨fk,fl,fm⟩,f7,h⟩:=gJ h;refine uN (gI (gH0  f7)) ?_;refine vP (jN TBd.h TZ.h rfl (by repeat constructor)) ?_;refine uO (u:=(.st [.s [109],.sl 3 [],.st [.i .i64 fk,.s fl,.sl 3 (gN fm)],.b false,.sl 1 [],.st [.i .i64 0,.s [],.s [],.i .i64 0,.st [.i .i64 0,.s [],.sl 3 []],.sl 9 [],.sl 11 []]])) ?_;refine yT (jN TBd.h TZ.h rfl (by repeat constructor)) ?_;obtain⟨⟨gu,⟨dn,dp,dq⟩⟩,f8,h⟩:=gJ h;refine mI 0 (wB (gK.mk fh fi fj) 2 f8) ?_;refine goL ?_;obtain⟨b6,hb6,h⟩:=gJ h;refine gIx (fun v7=>⟨[(0,.ptr 0 0),(2,.ptr 1 0),(4,.ptr 5 0)],[bCu dn dp dq,.box [.S [],.nilsl,.B false,.B false,.nilsl],bTy al am an,.frz 9 1 0 (gT [[115,104,111,119],[101,113],[97,100,100]]),.arr 108 16 v7 (kM b6),.box [.S ao,.nilsl,.B false,.B br,.sl 4 v7]],Tryz.f100.ntmps⟩) ?_ (fun v7=>?_)
 ·refine mR (fun c8=>?_) (fun c8=>?_)
  ·replace hb6:=kU c8 hb6;obtain⟨⟨b9,ca,cb⟩,ga,hb6⟩:=gJ hb6;obtain⟨⟨au,av,aw,ax,⟨f,y,aa⟩,ay,a0⟩,fs,hb6⟩:=uK hb6;have sx10:=gPh [120];rw [fs] at sx10;obtain⟨⟨bt,bu,bv,bw,⟨ap,aq,ar⟩,bx,bz⟩,ft,hb6⟩:=uK hb6;have sx11:=gM9 1;rw [ft] at sx11;obtain⟨⟨bf,bg,bh,bi,⟨ai,aj,ak⟩,bj,bk⟩,co,hb6⟩:=gJ hb6;obtain⟨dg,hb6⟩:=pU hb6;refine qY (P:=Tryz.prog) Mix.h (q3T 0 (.q 4 (q3T 6 (.q 11 (.h 3 (.h 5 (hcT 9 (.q 10 (hcT 12 (.q 13 (.q 14 (hcT 15 (hcT 16 (.q 17 (hzT 18))))))))) (hcT 9 (.q 10 (.h 5 (hcT 12 (.q 13 (.q 14 (hcT 15 (hcT 16 (.q 17 (hzT 18))))))) (hcT 12 (.q 13 (hcT 5 (.q 14 (hcT 15 (hcT 16 (.q 17 (hzT 18)))))))))))) (.h 5 (.h 3 (hcT 9 (.q 10 (hcT 12 (.q 13 (.q 14 (hcT 15 (hcT 16 (.q 17 (hzT 18))))))))) (hcT 9 (.q 10 (.h 3 (hcT 12 (.q 13 (.q 14 (hcT 15 (hcT 16 (.q 17 (hzT 18))))))) (hcT 12 (.q 13 (hcT 3 (.q 14 (hcT 15 (hcT 16 (.q 17 (hzT 18)))))))))))) (hcT 9 (.q 10 (.h 3 (.h 5 (hcT 12 (.q 13 (.q 14 (hcT 15 (hcT 16 (.q 17 (hzT 18))))))) (hcT 12 (.q 13 (hcT 5 (.q 14 (hcT 15 (hcT 16 (.q 17 (hzT 18))))))))) (.h 5 (.h 3 (hcT 12 (.q 13 (.q 14 (hcT 15 (hcT 16 (.q 17 (hzT 18))))))) (hcT 12 (.q 13 (hcT 3 (.q 14 (hcT 15 (hcT 16 (.q 17 (hzT 18))))))))) (hcT 12 (.q 13 (.h 3 (hcT 5 (.q 14 (hcT 15 (hcT 16 (.q 17 (hzT 18)))))) (hcT 5 (hcT 3 (.q 14 (hcT 15 (hcT 16 (.q 17 (hzT 18)))))))))))))))))))) ⟨[(0,.ptr 0 0),(2,.ptr 1 0),(4,.ptr 5 0)],[bCu dn dp dq,.box [.S [],.nilsl,.B false,.B false,.nilsl],bTy al am an,.frz 9 1 0 (gT [[115,104,111,119],[101,113],[97,100,100]]),.arr 108 16 (0+1) (kM ([(jT.mk [109] [] (gB.mk fk fl fm) false [] (gY.mk 0 [] [] 0 (gB.mk 0 [] []) [] []))]++[(jT.mk [116,119,105,99,101] [(gB.mk al am an)] (gB.mk b9 ca cb) true [[120],[121]] (gY.mk bf bg bh bi (gB.mk ai aj ak) bj bk))])),.box [.S ao,.nilsl,.B false,.B br,.sl 4 (0+1)],.frz 37 3 0 (gN [(gB.mk al am an)]),.frz 9 1 0 (gT [[120],[121]]),.frz 101 9 0 (kQ [(gY.mk au av aw ax (gB.mk f y aa) ay a0)]),.frz 101 9 0 (kQ [(gY.mk 5 ao [109] 0 (gB.mk 0 [] []) [(gY.mk au av aw ax (gB.mk f y aa) ay a0)] []),(gY.mk bt bu bv bw (gB.mk ap aq ar) bx bz)]),.arr 108 16 0 (kM [(jT.mk [116,119,105,99,101] [(gB.mk al am an)] (gB.mk b9 ca cb) true [[120],[121]] (gY.mk bf bg bh bi (gB.mk ai aj ak) bj bk))])],Tryz.f100.ntmps⟩ (by kernel_rfl) ?_ ?_
   ·refine mU ?_;refine gGt (jW rfl (gI (gH0  ga)) gZ) ?_;refine mU ?_;refine gGt (jW rfl (gI (sx10)) gZ) ?_;refine gGt (jW rfl (gI (sx11)) gZ) ?_;refine uD (uE (T:=35) (us:=gN [(gB.mk al am an)]) gZ) ?_ ?_
    ·refine uD (uE (T:=34) (us:=gT [[120],[121]]) gZ) ?_ ?_
     ·refine gQ (uE (T:=98) (us:=kQ [(gY.mk au av aw ax (gB.mk f y aa) ay a0)]) gZ) ?_;refine mU ?_;refine gQ (uE (T:=98) (us:=kQ [(gY.mk 5 ao [109] 0 (gB.mk 0 [] []) [(gY.mk au av aw ax (gB.mk f y aa) ay a0)] []),(gY.mk bt bu bv bw (gB.mk ap aq ar) bx bz)]) gZ) ?_;refine gGt (jW rfl (gI (gDg _ _ _ co)) gZ) ?_;refine mU ?_;refine gQ (kT (T:=44) (us:=kM [(jT.mk [116,119,105,99,101] [(gB.mk al am an)] (gB.mk b9 ca cb) true [[120],[121]] (gY.mk bf bg bh bi (gB.mk ai aj ak) bj bk))]) gZ) ?_;refine gQ (kN (T:=44) dg gZ) ?_;refine mU ?_;refine jL ?_;exact pQ 1 [0,1,2,3,4,5,6,7,8,9,10]
     refine gQ (uE (T:=98) (us:=kQ [(gY.mk au av aw ax (gB.mk f y aa) ay a0)]) gZ) ?_;refine mU ?_;refine uD (uE (T:=34) (us:=gT [[120],[121]]) gZ) ?_ ?_
     ·refine gQ (uE (T:=98) (us:=kQ [(gY.mk 5 ao [109] 0 (gB.mk 0 [] []) [(gY.mk au av aw ax (gB.mk f y aa) ay a0)] []),(gY.mk bt bu bv bw (gB.mk ap aq ar) bx bz)]) gZ) ?_;refine gGt (jW rfl (gI (gDg _ _ _ co)) gZ) ?_;refine mU ?_;refine gQ (kT (T:=44) (us:=kM [(jT.mk [116,119,105,99,101] [(gB.mk al am an)] (gB.mk b9 ca cb) true [[120],[121]] (gY.mk bf bg bh bi (gB.mk ai aj ak) bj bk))]) gZ) ?_;refine gQ (kN (T:=44) dg gZ) ?_;refine mU ?_;refine jL ?_;exact pQ 1 [0,1,2,3,4,5,6,8,7,9,10]
     refine gQ (uE (T:=98) (us:=kQ [(gY.mk 5 ao [109] 0 (gB.mk 0 [] []) [(gY.mk au av aw ax (gB.mk f y aa) ay a0)] []),(gY.mk bt bu bv bw (gB.mk ap aq ar) bx bz)]) gZ) ?_;refine gGt (jW rfl (gI (gDg _ _ _ co)) gZ) ?_;refine gQ (uE (T:=34) (us:=gT [[120],[121]]) gZ) ?_;refine mU ?_;refine gQ (kT (T:=44) (us:=kM [(jT.mk [116,119,105,99,101] [(gB.mk al am an)] (gB.mk b9 ca cb) true [[120],[121]] (gY.mk bf bg bh bi (gB.mk ai aj ak) bj bk))]) gZ) ?_;refine gQ (kN (T:=44) dg gZ) ?_;refine mU ?_;refine jL ?_;exact pQ 1 [0,1,2,3,4,5,6,9,7,8,10]
    refine uD (uE (T:=34) (us:=gT [[120],[121]]) gZ) ?_ ?_
    ·refine uD (uE (T:=35) (us:=gN [(gB.mk al am an)]) gZ) ?_ ?_
     ·refine gQ (uE (T:=98) (us:=kQ [(gY.mk au av aw ax (gB.mk f y aa) ay a0)]) gZ) ?_;refine mU ?_;refine gQ (uE (T:=98) (us:=kQ [(gY.mk 5 ao [109] 0 (gB.mk 0 [] []) [(gY.mk au av aw ax (gB.mk f y aa) ay a0)] []),(gY.mk bt bu bv bw (gB.mk ap aq ar) bx bz)]) gZ) ?_;refine gGt (jW rfl (gI (gDg _ _ _ co)) gZ) ?_;refine mU ?_;refine gQ (kT (T:=44) (us:=kM [(jT.mk [116,119,105,99,101] [(gB.mk al am an)] (gB.mk b9 ca cb) true [[120],[121]] (gY.mk bf bg bh bi (gB.mk ai aj ak) bj bk))]) gZ) ?_;refine gQ (kN (T:=44) dg gZ) ?_;refine mU ?_;refine jL ?_;exact pQ 1 [0,1,2,3,4,5,7,6,8,9,10]
     refine gQ (uE (T:=98) (us:=kQ [(gY.mk au av aw ax (gB.mk f y aa) ay a0)]) gZ) ?_;refine mU ?_;refine uD (uE (T:=35) (us:=gN [(gB.mk al am an)]) gZ) ?_ ?_
     ·refine gQ (uE (T:=98) (us:=kQ [(gY.mk 5 ao [109] 0 (gB.mk 0 [] []) [(gY.mk au av aw ax (gB.mk f y aa) ay a0)] []),(gY.mk bt bu bv bw (gB.mk ap aq ar) bx bz)]) gZ) ?_;refine gGt (jW rfl (gI (gDg _ _ _ co)) gZ) ?_;refine mU ?_;refine gQ (kT (T:=44) (us:=kM [(jT.mk [116,119,105,99,101] [(gB.mk al am an)] (gB.mk b9 ca cb) true [[120],[121]] (gY.mk bf bg bh bi (gB.mk ai aj ak) bj bk))]) gZ) ?_;refine gQ (kN (T:=44) dg gZ) ?_;refine mU ?_;refine jL ?_;exact pQ 1 [0,1,2,3,4,5,8,6,7,9,10]
     refine gQ (uE (T:=98) (us:=kQ [(gY.mk 5 ao [109] 0 (gB.mk 0 [] []) [(gY.mk au av aw ax (gB.mk f y aa) ay a0)] []),(gY.mk bt bu bv bw (gB.mk ap aq ar) bx bz)]) gZ) ?_;refine gGt (jW rfl (gI (gDg _ _ _ co)) gZ) ?_;refine gQ (uE (T:=35) (us:=gN [(gB.mk al am an)]) gZ) ?_;refine mU ?_;refine gQ (kT (T:=44) (us:=kM [(jT.mk [116,119,105,99,101] [(gB.mk al am an)] (gB.mk b9 ca cb) true [[120],[121]] (gY.mk bf bg bh bi (gB.mk ai aj ak) bj bk))]) gZ) ?_;refine gQ (kN (T:=44) dg gZ) ?_;refine mU ?_;refine jL ?_;exact pQ 1 [0,1,2,3,4,5,9,6,7,8,10]
    refine gQ (uE (T:=98) (us:=kQ [(gY.mk au av aw ax (gB.mk f y aa) ay a0)]) gZ) ?_;refine mU ?_;refine uD (uE (T:=35) (us:=gN [(gB.mk al am an)]) gZ) ?_ ?_
    ·refine uD (uE (T:=34) (us:=gT [[120],[121]]) gZ) ?_ ?_
     ·refine gQ (uE (T:=98) (us:=kQ [(gY.mk 5 ao [109] 0 (gB.mk 0 [] []) [(gY.mk au av aw ax (gB.mk f y aa) ay a0)] []),(gY.mk bt bu bv bw (gB.mk ap aq ar) bx bz)]) gZ) ?_;refine gGt (jW rfl (gI (gDg _ _ _ co)) gZ) ?_;refine mU ?_;refine gQ (kT (T:=44) (us:=kM [(jT.mk [116,119,105,99,101] [(gB.mk al am an)] (gB.mk b9 ca cb) true [[120],[121]] (gY.mk bf bg bh bi (gB.mk ai aj ak) bj bk))]) gZ) ?_;refine gQ (kN (T:=44) dg gZ) ?_;refine mU ?_;refine jL ?_;exact pQ 1 [0,1,2,3,4,5,7,8,6,9,10]
     refine gQ (uE (T:=98) (us:=kQ [(gY.mk 5 ao [109] 0 (gB.mk 0 [] []) [(gY.mk au av aw ax (gB.mk f y aa) ay a0)] []),(gY.mk bt bu bv bw (gB.mk ap aq ar) bx bz)]) gZ) ?_;refine gGt (jW rfl (gI (gDg _ _ _ co)) gZ) ?_;refine gQ (uE (T:=34) (us:=gT [[120],[121]]) gZ) ?_;refine mU ?_;refine gQ (kT (T:=44) (us:=kM [(jT.mk [116,119,105,99,101] [(gB.mk al am an)] (gB.mk b9 ca cb) true [[120],[121]] (gY.mk bf bg bh bi (gB.mk ai aj ak) bj bk))]) gZ) ?_;refine gQ (kN (T:=44) dg gZ) ?_;refine mU ?_;refine jL ?_;exact pQ 1 [0,1,2,3,4,5,7,9,6,8,10]
    refine uD (uE (T:=34) (us:=gT [[120],[121]]) gZ) ?_ ?_
    ·refine uD (uE (T:=35) (us:=gN [(gB.mk al am an)]) gZ) ?_ ?_
     ·refine gQ (uE (T:=98) (us:=kQ [(gY.mk 5 ao [109] 0 (gB.mk 0 [] []) [(gY.mk au av aw ax (gB.mk f y aa) ay a0)] []),(gY.mk bt bu bv bw (gB.mk ap aq ar) bx bz)]) gZ) ?_;refine gGt (jW rfl (gI (gDg _ _ _ co)) gZ) ?_;refine mU ?_;refine gQ (kT (T:=44) (us:=kM [(jT.mk [116,119,105,99,101] [(gB.mk al am an)] (gB.mk b9 ca cb) true [[120],[121]] (gY.mk bf bg bh bi (gB.mk ai aj ak) bj bk))]) gZ) ?_;refine gQ (kN (T:=44) dg gZ) ?_;refine mU ?_;refine jL ?_;exact pQ 1 [0,1,2,3,4,5,8,7,6,9,10]
     refine gQ (uE (T:=98) (us:=kQ [(gY.mk 5 ao [109] 0 (gB.mk 0 [] []) [(gY.mk au av aw ax (gB.mk f y aa) ay a0)] []),(gY.mk bt bu bv bw (gB.mk ap aq ar) bx bz)]) gZ) ?_;refine gGt (jW rfl (gI (gDg _ _ _ co)) gZ) ?_;refine gQ (uE (T:=35) (us:=gN [(gB.mk al am an)]) gZ) ?_;refine mU ?_;refine gQ (kT (T:=44) (us:=kM [(jT.mk [116,119,105,99,101] [(gB.mk al am an)] (gB.mk b9 ca cb) true [[120],[121]] (gY.mk bf bg bh bi (gB.mk ai aj ak) bj bk))]) gZ) ?_;refine gQ (kN (T:=44) dg gZ) ?_;refine mU ?_;refine jL ?_;exact pQ 1 [0,1,2,3,4,5,9,7,6,8,10]
    refine gQ (uE (T:=98) (us:=kQ [(gY.mk 5 ao [109] 0 (gB.mk 0 [] []) [(gY.mk au av aw ax (gB.mk f y aa) ay a0)] []),(gY.mk bt bu bv bw (gB.mk ap aq ar) bx bz)]) gZ) ?_;refine gGt (jW rfl (gI (gDg _ _ _ co)) gZ) ?_;refine uD (uE (T:=35) (us:=gN [(gB.mk al am an)]) gZ) ?_ ?_
    ·refine gQ (uE (T:=34) (us:=gT [[120],[121]]) gZ) ?_;refine mU ?_;refine gQ (kT (T:=44) (us:=kM [(jT.mk [116,119,105,99,101] [(gB.mk al am an)] (gB.mk b9 ca cb) true [[120],[121]] (gY.mk bf bg bh bi (gB.mk ai aj ak) bj bk))]) gZ) ?_;refine gQ (kN (T:=44) dg gZ) ?_;refine mU ?_;refine jL ?_;exact pQ 1 [0,1,2,3,4,5,8,9,6,7,10]
    refine gQ (uE (T:=34) (us:=gT [[120],[121]]) gZ) ?_;refine gQ (uE (T:=35) (us:=gN [(gB.mk al am an)]) gZ) ?_;refine mU ?_;refine gQ (kT (T:=44) (us:=kM [(jT.mk [116,119,105,99,101] [(gB.mk al am an)] (gB.mk b9 ca cb) true [[120],[121]] (gY.mk bf bg bh bi (gB.mk ai aj ak) bj bk))]) gZ) ?_;refine gQ (kN (T:=44) dg gZ) ?_;refine mU ?_;refine jL ?_;exact pQ 1 [0,1,2,3,4,5,9,8,6,7,10]
   refine goL ?_;cases hb6;exact⟨(0+1),eJ⟩
  ·replace hb6:=kV c8 hb6;refine vN ?_;cases hb6;exact⟨0,eJ⟩
 refine goL ?_;obtain⟨⟨gb,⟨dz,d0,d1⟩⟩,fu,h⟩:=gJ h;refine mI 0 (wB (gK.mk dn dp dq) 3 fu) ?_;refine goC h ?_ ?_<;>intro gv h
 ·refine goL ?_;refine wX ([111,114,100]:LB) ?_;refine goL ?_;obtain⟨⟨gc,⟨bl,bm,bn⟩⟩,fv,h⟩:=gJ h;refine mI 0 (mH (gK.mk dz d0 d1) 12 fv) ?_;refine goL ?_;refine jA ?_;refine goC h ?_ ?_<;>intro gw h
  ·refine goL ?_;refine mP 6 rfl rfl ?_;refine gV 4 rfl rfl ?_;refine jF ?_;obtain rfl:=Option.some.inj h;exact gB5 [.d (.st [.s ao,.sl 1 (gT [[111,114,100]]),.b true,.b br,.sl 16 (kM b6)])] [bCu bl bm bn] ⟨rfl,rfl⟩
  ·refine goC h ?_ ?_<;>intro gx h
   ·refine goL ?_;refine yQ (us:=gT [[],[105,110,116],[65]]) ?_;refine kS 7 rfl rfl ?_;obtain⟨⟨fo,⟨ew,ex,ey⟩⟩,fw,h⟩:=gJ h;refine mI 0 (kZ (gK.mk bl bm bn) [[],[105,110,116],[65]] fw) ?_;refine goL ?_;refine mP 6 rfl rfl ?_;refine gV 4 rfl rfl ?_;refine jF ?_;obtain rfl:=Option.some.inj h;exact gB5 [.d (.st [.s fo,.sl 1 (gT [[111,114,100]]),.b false,.b br,.sl 16 (kM b6)])] [bCu ew ex ey] ⟨rfl,rfl⟩
   ·refine goC h ?_ ?_<;>intro gy h
    ·obtain⟨⟨fp,⟨d2,d3,d4⟩⟩,ez,h⟩:=gJ h;obtain⟨⟨cp,cq,cr⟩,fx,h⟩:=uK h;have sx22:=gCl fp;rw [fx] at sx22;obtain⟨gd,de,h⟩:=gJ h;obtain⟨ge,de⟩:=gBm de;obtain⟨b0,b1,⟨cc,cd,ce⟩,b2,b3,⟨a3,a4,a5,a6,⟨ab,ac,ad⟩,a7,a8⟩⟩:=gd;refine qY (P:=Tryz.prog) Mix.h (.q 0 (.q 2 (.h 1 (hcT 3 (hcT 4 (.q 5 (hcT 6 (hcT 7 (hzT 8)))))) (hcT 3 (.h 1 (hcT 4 (.q 5 (hcT 6 (hcT 7 (hzT 8))))) (hcT 4 (.q 5 (hcT 1 (hcT 6 (hcT 7 (hzT 8))))))))))) ⟨[(2,.ptr 1 0),(4,.ptr 5 0)],[bCu d2 d3 d4,.box [.S [],.nilsl,.B false,.B false,.nilsl],bTy al am an,.frz 9 1 0 (gT [[115,104,111,119],[101,113],[97,100,100]]),.arr 108 16 v7 (kM (b6.set 0 (jT.mk b0 b1 (gB.mk cp cq cr) b2 b3 (gY.mk a3 a4 a5 a6 (gB.mk ab ac ad) a7 a8)))),.box [.S ao,.sl 6 0,.B false,.B br,.sl 4 v7],.own 9 1 0 (gT [[111,114,100]]),.frz 9 1 0 (gT [[115,101,108,102],[98]])],Tryz.f100.ntmps⟩ (by kernel_rfl) ?_ ?_
     ·refine mU ?_;refine uD (kF gZ) ?_ ?_
      ·refine gQ (uE (T:=34) (us:=gT [[115,101,108,102],[98]]) gZ) ?_;refine gQ (qU 0 (kZ (gK.mk bl bm bn) [[115,101,108,102],[98]] ez) gZ) ?_;refine gGt (jW rfl (gI (sx22)) gZ) ?_;refine gQ (gAo 0 (List.getElem?_eq_some_iff.1 de).1 gZ) ?_;refine gQ (gA6 gZ) ?_;refine gQ (gA7 [(.s b0),(.sl 3 (gN b1))] [(.b b2),(.sl 1 (gT b3)),(.st [.i .i64 a3,.s a4,.s a5,.i .i64 a6,.st [.i .i64 ab,.s ac,.sl 3 (gN ad)],.sl 9 (kQ a7),.sl 11 (uZ a8)])] (.st [.i .i64 cc,.s cd,.sl 3 (gN ce)]) (.st [.i .i64 cp,.s cq,.sl 3 (gN cr)]) (jT.mk b0 b1 (gB.mk cc cd ce) b2 b3 (gY.mk a3 a4 a5 a6 (gB.mk ab ac ad) a7 a8)) (jT.mk b0 b1 (gB.mk cp cq cr) b2 b3 (gY.mk a3 a4 a5 a6 (gB.mk ab ac ad) a7 a8)) de gZ) ?_;refine jL ?_;exact pQ 1 [0,1,2,3,4,5,6,7]
      refine gQ (uE (T:=34) (us:=gT [[115,101,108,102],[98]]) gZ) ?_;refine uD (kF gZ) ?_ ?_
      ·refine gQ (qU 0 (kZ (gK.mk bl bm bn) [[115,101,108,102],[98]] ez) gZ) ?_;refine gGt (jW rfl (gI (sx22)) gZ) ?_;refine gQ (gAo 0 (List.getElem?_eq_some_iff.1 de).1 gZ) ?_;refine gQ (gA6 gZ) ?_;refine gQ (gA7 [(.s b0),(.sl 3 (gN b1))] [(.b b2),(.sl 1 (gT b3)),(.st [.i .i64 a3,.s a4,.s a5,.i .i64 a6,.st [.i .i64 ab,.s ac,.sl 3 (gN ad)],.sl 9 (kQ a7),.sl 11 (uZ a8)])] (.st [.i .i64 cc,.s cd,.sl 3 (gN ce)]) (.st [.i .i64 cp,.s cq,.sl 3 (gN cr)]) (jT.mk b0 b1 (gB.mk cc cd ce) b2 b3 (gY.mk a3 a4 a5 a6 (gB.mk ab ac ad) a7 a8)) (jT.mk b0 b1 (gB.mk cp cq cr) b2 b3 (gY.mk a3 a4 a5 a6 (gB.mk ab ac ad) a7 a8)) de gZ) ?_;refine jL ?_;exact pQ 1 [0,1,2,3,4,5,6,7]
      refine gQ (qU 0 (kZ (gK.mk bl bm bn) [[115,101,108,102],[98]] ez) gZ) ?_;refine gGt (jW rfl (gI (sx22)) gZ) ?_;refine gQ (kF gZ) ?_;refine gQ (gAo 0 (List.getElem?_eq_some_iff.1 de).1 gZ) ?_;refine gQ (gA6 gZ) ?_;refine gQ (gA7 [(.s b0),(.sl 3 (gN b1))] [(.b b2),(.sl 1 (gT b3)),(.st [.i .i64 a3,.s a4,.s a5,.i .i64 a6,.st [.i .i64 ab,.s ac,.sl 3 (gN ad)],.sl 9 (kQ a7),.sl 11 (uZ a8)])] (.st [.i .i64 cc,.s cd,.sl 3 (gN ce)]) (.st [.i .i64 cp,.s cq,.sl 3 (gN cr)]) (jT.mk b0 b1 (gB.mk cc cd ce) b2 b3 (gY.mk a3 a4 a5 a6 (gB.mk ab ac ad) a7 a8)) (jT.mk b0 b1 (gB.mk cp cq cr) b2 b3 (gY.mk a3 a4 a5 a6 (gB.mk ab ac ad) a7 a8)) de gZ) ?_;refine jL ?_;exact pQ 1 [0,1,2,3,4,5,6,7]
     refine goL ?_;refine mP 6 rfl rfl ?_;refine gV 4 rfl rfl ?_;refine jF ?_;obtain rfl:=Option.some.inj h;exact gB5 [.d (.st [.s ao,.sl 1 (gT [[111,114,100]]),.b false,.b br,.sl 16 (kM (b6.set 0 (jT.mk b0 b1 (gB.mk cp cq cr) b2 b3 (gY.mk a3 a4 a5 a6 (gB.mk ab ac ad) a7 a8))))])] [bCu d2 d3 d4] ⟨rfl,rfl⟩
    ·refine goC h ?_ ?_<;>intro gz h
     ·refine goL ?_;obtain⟨gf,er,h⟩:=gJ h;obtain⟨gg,er⟩:=gBm er;obtain⟨dr,dt,⟨cv,cw,cx⟩,e0,du,⟨cy,cz,c0,c1,⟨ci,cj,ck⟩,c2,c3⟩⟩:=gf;refine vP (gXh 0 (List.getElem?_eq_some_iff.1 er).1) ?_;refine vP (gXi) ?_;refine gRj [(.s dr),(.sl 3 (gN dt)),(.st [.i .i64 cv,.s cw,.sl 3 (gN cx)])] [(.sl 1 (gT du)),(.st [.i .i64 cy,.s cz,.s c0,.i .i64 c1,.st [.i .i64 ci,.s cj,.sl 3 (gN ck)],.sl 9 (kQ c2),.sl 11 (uZ c3)])] (.b e0) (.b true) (jT.mk dr dt (gB.mk cv cw cx) e0 du (gY.mk cy cz c0 c1 (gB.mk ci cj ck) c2 c3)) (jT.mk dr dt (gB.mk cv cw cx) true du (gY.mk cy cz c0 c1 (gB.mk ci cj ck) c2 c3)) er ?_;refine goL ?_;refine mP 6 rfl rfl ?_;refine gV 4 rfl rfl ?_;refine jF ?_;obtain rfl:=Option.some.inj h;exact gB5 [.d (.st [.s ao,.sl 1 (gT [[111,114,100]]),.b false,.b br,.sl 16 (kM (b6.set 0 (jT.mk dr dt (gB.mk cv cw cx) true du (gY.mk cy cz c0 c1 (gB.mk ci cj ck) c2 c3))))])] [bCu bl bm bn] ⟨rfl,rfl⟩
     ·refine goC h ?_ ?_<;>intro g0 h
      ·refine goL ?_;refine wX ([111,114,100]:LB) ?_;obtain⟨gh,h⟩:=pU h;refine gDl gh ?_;refine goL ?_;refine mP 6 rfl rfl ?_;refine gV 4 rfl rfl ?_;refine jF ?_;obtain rfl:=Option.some.inj h;exact gB5 [.d (.st [.s ao,.sl 1 (gT ([[111,114,100]]++[[111,114,100]])),.b false,.b br,.sl 16 (kM b6)])] [bCu bl bm bn] ⟨rfl,rfl⟩
      ·refine goC h ?_ ?_<;>intro g1 h
       ·refine yL (P:=Tryz.prog) Mix.h [(0,true),(1,true),(2,true),(3,true),(4,false),(5,false),(6,false),(7,false),(8,true),(9,false)] (by kernel_rfl) ?_;refine goY ?_;obtain⟨gi,et,h⟩:=gJ h;obtain⟨gj,et⟩:=gBm et;obtain⟨e1,e2,⟨d5,d6,d7⟩,e3,e4,⟨d8,d9,ea,eb,⟨dh,di,dj⟩,ec,ed⟩⟩:=gi;refine gAo 0 (List.getElem?_eq_some_iff.1 et).1 ?_;refine hKg et ?_;refine kT (T:=44) (us:=kM [(jT.mk e1 e2 (gB.mk d5 d6 d7) e3 e4 (gY.mk d8 d9 ea eb (gB.mk dh di dj) ec ed))]) ?_;obtain⟨gk,h⟩:=pU h;refine kN (T:=44) gk ?_;refine goY ?_;refine mJ ?_;refine goL ?_;refine mP 6 rfl rfl ?_;refine gV 4 rfl rfl ?_;refine jF ?_;obtain rfl:=Option.some.inj h;exact gB5 [.d (.st [.s ao,.sl 1 (gT [[111,114,100]]),.b false,.b br,.sl 16 (kM (b6++[(jT.mk e1 e2 (gB.mk d5 d6 d7) e3 e4 (gY.mk d8 d9 ea eb (gB.mk dh di dj) ec ed))]))])] [bCu bl bm bn] ⟨rfl,rfl⟩
       ·refine goS ?_;refine mP 6 rfl rfl ?_;refine gV 4 rfl rfl ?_;refine jF ?_;obtain rfl:=Option.some.inj h;exact gB5 [.d (.st [.s ao,.sl 1 (gT [[111,114,100]]),.b false,.b br,.sl 16 (kM b6)])] [bCu bl bm bn] ⟨rfl,rfl⟩
 ·refine goS ?_;obtain⟨⟨gl,⟨bo,bp,bq⟩⟩,fy,h⟩:=gJ h;refine mI 0 (mH (gK.mk dz d0 d1) 12 fy) ?_;refine goL ?_;refine jA ?_;refine goC h ?_ ?_<;>intro g2 h
  ·refine goL ?_;refine gV 4 rfl rfl ?_;refine jF ?_;obtain rfl:=Option.some.inj h;exact gB5 [.d (.st [.s ao,.sl 1 [],.b true,.b br,.sl 16 (kM b6)])] [bCu bo bp bq] ⟨rfl,rfl⟩
  ·refine goC h ?_ ?_<;>intro g3 h
   ·refine goL ?_;refine yQ (us:=gT [[],[105,110,116],[65]]) ?_;refine kS 6 rfl rfl ?_;obtain⟨⟨fq,⟨e5,e6,e7⟩⟩,fz,h⟩:=gJ h;refine mI 0 (kZ (gK.mk bo bp bq) [[],[105,110,116],[65]] fz) ?_;refine goL ?_;refine gV 4 rfl rfl ?_;refine jF ?_;obtain rfl:=Option.some.inj h;exact gB5 [.d (.st [.s fq,.sl 1 [],.b false,.b br,.sl 16 (kM b6)])] [bCu e5 e6 e7] ⟨rfl,rfl⟩
   ·refine goC h ?_ ?_<;>intro g4 h
    ·obtain⟨⟨fr,⟨ee,ef,eg⟩⟩,e8,h⟩:=gJ h;obtain⟨⟨cs,ct,cu⟩,f0,h⟩:=uK h;have sx37:=gCl fr;rw [f0] at sx37;obtain⟨gm,df,h⟩:=gJ h;obtain⟨gn,df⟩:=gBm df;obtain⟨b4,b5,⟨cf,cg,ch⟩,b7,b8,⟨a9,ba,bb,bc,⟨ae,ag,ah⟩,bd,be⟩⟩:=gm;refine qY (P:=Tryz.prog) Mix.h (.q 0 (.q 2 (.h 1 (hcT 3 (hcT 4 (.q 5 (hcT 6 (hcT 7 (hzT 8)))))) (hcT 3 (.h 1 (hcT 4 (.q 5 (hcT 6 (hcT 7 (hzT 8))))) (hcT 4 (.q 5 (hcT 1 (hcT 6 (hcT 7 (hzT 8))))))))))) ⟨[(2,.ptr 1 0),(4,.ptr 5 0)],[bCu ee ef eg,.box [.S [],.nilsl,.B false,.B false,.nilsl],bTy al am an,.frz 9 1 0 (gT [[115,104,111,119],[101,113],[97,100,100]]),.arr 108 16 v7 (kM (b6.set 0 (jT.mk b4 b5 (gB.mk cs ct cu) b7 b8 (gY.mk a9 ba bb bc (gB.mk ae ag ah) bd be)))),.box [.S ao,.nilsl,.B false,.B br,.sl 4 v7],.frz 9 1 0 (gT [[115,101,108,102],[98]])],Tryz.f100.ntmps⟩ (by kernel_rfl) ?_ ?_
     ·refine mU ?_;refine uD (kF gZ) ?_ ?_
      ·refine gQ (uE (T:=34) (us:=gT [[115,101,108,102],[98]]) gZ) ?_;refine gQ (qU 0 (kZ (gK.mk bo bp bq) [[115,101,108,102],[98]] e8) gZ) ?_;refine gGt (jW rfl (gI (sx37)) gZ) ?_;refine gQ (gAo 0 (List.getElem?_eq_some_iff.1 df).1 gZ) ?_;refine gQ (gA6 gZ) ?_;refine gQ (gA7 [(.s b4),(.sl 3 (gN b5))] [(.b b7),(.sl 1 (gT b8)),(.st [.i .i64 a9,.s ba,.s bb,.i .i64 bc,.st [.i .i64 ae,.s ag,.sl 3 (gN ah)],.sl 9 (kQ bd),.sl 11 (uZ be)])] (.st [.i .i64 cf,.s cg,.sl 3 (gN ch)]) (.st [.i .i64 cs,.s ct,.sl 3 (gN cu)]) (jT.mk b4 b5 (gB.mk cf cg ch) b7 b8 (gY.mk a9 ba bb bc (gB.mk ae ag ah) bd be)) (jT.mk b4 b5 (gB.mk cs ct cu) b7 b8 (gY.mk a9 ba bb bc (gB.mk ae ag ah) bd be)) df gZ) ?_;refine jL ?_;exact pQ 1 [0,1,2,3,4,5,6]
      refine gQ (uE (T:=34) (us:=gT [[115,101,108,102],[98]]) gZ) ?_;refine uD (kF gZ) ?_ ?_
      ·refine gQ (qU 0 (kZ (gK.mk bo bp bq) [[115,101,108,102],[98]] e8) gZ) ?_;refine gGt (jW rfl (gI (sx37)) gZ) ?_;refine gQ (gAo 0 (List.getElem?_eq_some_iff.1 df).1 gZ) ?_;refine gQ (gA6 gZ) ?_;refine gQ (gA7 [(.s b4),(.sl 3 (gN b5))] [(.b b7),(.sl 1 (gT b8)),(.st [.i .i64 a9,.s ba,.s bb,.i .i64 bc,.st [.i .i64 ae,.s ag,.sl 3 (gN ah)],.sl 9 (kQ bd),.sl 11 (uZ be)])] (.st [.i .i64 cf,.s cg,.sl 3 (gN ch)]) (.st [.i .i64 cs,.s ct,.sl 3 (gN cu)]) (jT.mk b4 b5 (gB.mk cf cg ch) b7 b8 (gY.mk a9 ba bb bc (gB.mk ae ag ah) bd be)) (jT.mk b4 b5 (gB.mk cs ct cu) b7 b8 (gY.mk a9 ba bb bc (gB.mk ae ag ah) bd be)) df gZ) ?_;refine jL ?_;exact pQ 1 [0,1,2,3,4,5,6]
      refine gQ (qU 0 (kZ (gK.mk bo bp bq) [[115,101,108,102],[98]] e8) gZ) ?_;refine gGt (jW rfl (gI (sx37)) gZ) ?_;refine gQ (kF gZ) ?_;refine gQ (gAo 0 (List.getElem?_eq_some_iff.1 df).1 gZ) ?_;refine gQ (gA6 gZ) ?_;refine gQ (gA7 [(.s b4),(.sl 3 (gN b5))] [(.b b7),(.sl 1 (gT b8)),(.st [.i .i64 a9,.s ba,.s bb,.i .i64 bc,.st [.i .i64 ae,.s ag,.sl 3 (gN ah)],.sl 9 (kQ bd),.sl 11 (uZ be)])] (.st [.i .i64 cf,.s cg,.sl 3 (gN ch)]) (.st [.i .i64 cs,.s ct,.sl 3 (gN cu)]) (jT.mk b4 b5 (gB.mk cf cg ch) b7 b8 (gY.mk a9 ba bb bc (gB.mk ae ag ah) bd be)) (jT.mk b4 b5 (gB.mk cs ct cu) b7 b8 (gY.mk a9 ba bb bc (gB.mk ae ag ah) bd be)) df gZ) ?_;refine jL ?_;exact pQ 1 [0,1,2,3,4,5,6]
     refine goL ?_;refine gV 4 rfl rfl ?_;refine jF ?_;obtain rfl:=Option.some.inj h;exact gB5 [.d (.st [.s ao,.sl 1 [],.b false,.b br,.sl 16 (kM (b6.set 0 (jT.mk b4 b5 (gB.mk cs ct cu) b7 b8 (gY.mk a9 ba bb bc (gB.mk ae ag ah) bd be))))])] [bCu ee ef eg] ⟨rfl,rfl⟩
    ·refine goC h ?_ ?_<;>intro g5 h
     ·refine goL ?_;obtain⟨go,eu,h⟩:=gJ h;obtain⟨gp,eu⟩:=gBm eu;obtain⟨dv,dw,⟨c4,c5,c6⟩,e9,dx,⟨c7,c9,da,db,⟨cl,cm,cn⟩,dc,dd⟩⟩:=go;refine vP (gXh 0 (List.getElem?_eq_some_iff.1 eu).1) ?_;refine vP (gXi) ?_;refine gRj [(.s dv),(.sl 3 (gN dw)),(.st [.i .i64 c4,.s c5,.sl 3 (gN c6)])] [(.sl 1 (gT dx)),(.st [.i .i64 c7,.s c9,.s da,.i .i64 db,.st [.i .i64 cl,.s cm,.sl 3 (gN cn)],.sl 9 (kQ dc),.sl 11 (uZ dd)])] (.b e9) (.b true) (jT.mk dv dw (gB.mk c4 c5 c6) e9 dx (gY.mk c7 c9 da db (gB.mk cl cm cn) dc dd)) (jT.mk dv dw (gB.mk c4 c5 c6) true dx (gY.mk c7 c9 da db (gB.mk cl cm cn) dc dd)) eu ?_;refine goL ?_;refine gV 4 rfl rfl ?_;refine jF ?_;obtain rfl:=Option.some.inj h;exact gB5 [.d (.st [.s ao,.sl 1 [],.b false,.b br,.sl 16 (kM (b6.set 0 (jT.mk dv dw (gB.mk c4 c5 c6) true dx (gY.mk c7 c9 da db (gB.mk cl cm cn) dc dd))))])] [bCu bo bp bq] ⟨rfl,rfl⟩
     ·refine goC h ?_ ?_<;>intro g6 h
      ·refine goL ?_;refine wX ([111,114,100]:LB) ?_;obtain⟨gq,h⟩:=pU h;refine hPa gq ?_;refine goL ?_;refine mP 7 rfl rfl ?_;refine gV 4 rfl rfl ?_;refine jF ?_;obtain rfl:=Option.some.inj h;exact gB5 [.d (.st [.s ao,.sl 1 (gT [[111,114,100]]),.b false,.b br,.sl 16 (kM b6)])] [bCu bo bp bq] ⟨rfl,rfl⟩
      ·refine goC h ?_ ?_<;>intro g7 h
       ·refine yL (P:=Tryz.prog) Mix.h [(0,true),(1,true),(2,true),(3,true),(4,false),(5,false),(6,false),(7,false),(8,true),(9,false)] (by kernel_rfl) ?_;refine goY ?_;obtain⟨gr,ev,h⟩:=gJ h;obtain⟨gs,ev⟩:=gBm ev;obtain⟨fa,fb,⟨eh,ei,ej⟩,fc,fd,⟨ek,el,em,en,⟨dk,dl,dm⟩,eo,ep⟩⟩:=gr;refine gAo 0 (List.getElem?_eq_some_iff.1 ev).1 ?_;refine hKg ev ?_;refine kT (T:=44) (us:=kM [(jT.mk fa fb (gB.mk eh ei ej) fc fd (gY.mk ek el em en (gB.mk dk dl dm) eo ep))]) ?_;obtain⟨gt,h⟩:=pU h;refine kN (T:=44) gt ?_;refine goY ?_;refine mJ ?_;refine goL ?_;refine gV 4 rfl rfl ?_;refine jF ?_;obtain rfl:=Option.some.inj h;exact gB5 [.d (.st [.s ao,.sl 1 [],.b false,.b br,.sl 16 (kM (b6++[(jT.mk fa fb (gB.mk eh ei ej) fc fd (gY.mk ek el em en (gB.mk dk dl dm) eo ep))]))])] [bCu bo bp bq] ⟨rfl,rfl⟩
       ·refine goS ?_;refine gV 4 rfl rfl ?_;refine jF ?_;obtain rfl:=Option.some.inj h;exact gB5 [.d (.st [.s ao,.sl 1 [],.b false,.b br,.sl 16 (kM b6)])] [bCu bo bp bq] ⟨rfl,rfl⟩
end Go.Proofs.YtfpdlnkkcnmebaaGreat
