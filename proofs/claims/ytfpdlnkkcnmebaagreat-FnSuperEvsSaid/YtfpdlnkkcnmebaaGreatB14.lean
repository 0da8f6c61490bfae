import Derived.Test.YtfpdlnkkcnmebaaGreatF3
import Derived.Test.YtfpdlnkkcnmebaaGreatWd
set_option maxHeartbeats 4000000
set_option linter.unusedVariables false
set_option linter.unusedSimpArgs false
set_option linter.unusedSectionVars false
namespace Go.Proofs.YtfpdlnkkcnmebaaGreat
open Go Go.Eng
attribute [local irreducible] V VO VQ VY Quiet QR jF mJ Rng qI qJ qB
def gPb(c:gN):Option (kI × gN):=
bnd (qE c [[102],[103]]) fun x1=>
lt_ (wX [97]) fun h=>
lt_ (wX [97]) fun q=>
bnd (gE3 ) fun x4=>
lt_ (gIp [120]) fun x5=>
bnd (mX x1.2 10) fun f=>
(cnd (f.1==0) (
bnd (zL f.2 2) fun x8=>
(some ((kI.mk x1.1 [[97]] [(gT.mk [115,104,111,119] h)] [(uG.mk [120] q)] x8.1 (gU.mk 5 [115,104,111,119] [109] 0 (gB.mk 0 [] []) [x5] [])),x8.2))) (
(cnd (f.1==1) (
bnd (qE f.2 [[120],[121]]) fun y=>
bnd (gE3 ) fun ad=>
gd ([(uG.mk [120] q)].length+[(uG.mk y.1 ad)].length≤4294967296) (
(some ((kI.mk x1.1 [[97]] [(gT.mk [115,104,111,119] h)] ([(uG.mk [120] q)]++[(uG.mk y.1 ad)]) x4 (gU.mk 5 [115,104,111,119] [109] 0 (gB.mk 0 [] []) [x5] [])),y.2)))) (
(cnd (f.1==2) (
bnd (gBy 5000 f.2 [[120],[121]] 3) fun ae=>
(some ((kI.mk x1.1 [[97]] [(gT.mk [115,104,111,119] h)] [(uG.mk [120] q)] x4 ae.1),ae.2))) (
(cnd (f.1==3) (
bnd (zL f.2 1) fun ag=>
bnd (at? [(gT.mk [115,104,111,119] h)] 0) fun ai=>
(some ((kI.mk x1.1 [[97]] ([(gT.mk [115,104,111,119] h)].set 0 (gT.mk ai.trait ag.1)) [(uG.mk [120] q)] x4 (gU.mk 5 [115,104,111,119] [109] 0 (gB.mk 0 [] []) [x5] [])),ag.2))) (
(cnd (f.1==4) (
bnd (qE f.2 [[],[105,102]]) fun ah=>
(some ((kI.mk ah.1 [[97]] [(gT.mk [115,104,111,119] h)] [(uG.mk [120] q)] x4 (gU.mk 5 [115,104,111,119] [109] 0 (gB.mk 0 [] []) [x5] [])),ah.2))) (
(some ((kI.mk x1.1 [[97]] [(gT.mk [115,104,111,119] h)] [(uG.mk [120] q)] x4 (gU.mk 5 [115,104,111,119] [109] 0 (gB.mk 0 [] []) [x5] [])),f.2))))))))))))
theorem gVy(c:gN){r:kI × gN}(h:gPb c=some r):Go.Eng.Spec Tryz.prog 103 [.ptr 0 0] [bCu c.b c.i c.h] (fun sv Lo=>sv=.d (gD7 r.1)∧Lo=[bCu r.2.b r.2.i r.2.h]):=by
 obtain⟨cf,cg,ch⟩:=c;unfold gPb at h;refine kS 1 Tryz.func103 rfl (by kernel_rfl) rfl rfl fun A _=>?_;refine goL ?_;refine gAg (us:=gP [[102],[103]]) ?_;refine mD 2 rfl rfl ?_;obtain⟨⟨a8,⟨b3,b4,b5⟩⟩,ci,h⟩:=gJ h;refine mZ 0 (jZ (gN.mk cf cg ch) [[102],[103]] ci) ?_;refine yF ([97]:LB) ?_;obtain⟨⟨aq,ar,au⟩,cj,h⟩:=qW h;have sx2:=gCr [97];rw [cj] at sx2;refine qM (gG (sx2)) ?_;refine yS (jU TBd.h TZ.h rfl (by repeat constructor)) ?_;refine gAg (us:=jQ [(gT.mk [115,104,111,119] (gB.mk aq ar au))]) ?_;obtain⟨⟨av,aw,ax⟩,ck,h⟩:=qW h;have sx3:=gCr [97];rw [ck] at sx3;refine qM (gG (sx3)) ?_;refine yS (jU TBd.h TZ.h rfl (by repeat constructor)) ?_;refine gAg (us:=uS [(uG.mk [120] (gB.mk av aw ax))]) ?_;obtain⟨⟨a9,ba,bb⟩,cl,h⟩:=gJ h;refine qM (gG (gEi  cl)) ?_;obtain⟨⟨ay,a0,a3,a4,⟨ak,al,am⟩,a5,a6⟩,cm,h⟩:=qW h;have sx5:=gOi [120];rw [cm] at sx5;refine qM (gG (sx5)) ?_;refine gAg (us:=jS [(gU.mk ay a0 a3 a4 (gB.mk ak al am) a5 a6)]) ?_;refine yS (jU TBd.h TZ.h rfl (by repeat constructor)) ?_;refine gAc (jU TBd.h TZ.h rfl (by repeat constructor)) ?_;obtain⟨⟨cr,⟨f,y,aa⟩⟩,cn,h⟩:=gJ h;refine mZ 0 (pU (gN.mk b3 b4 b5) 10 cn) ?_;refine goL ?_;refine jE ?_;refine goC h ?_ ?_<;>intro c7 h
 ·refine goL ?_;obtain⟨⟨⟨b6,b7,b8⟩,⟨b9,ca,cb⟩⟩,co,h⟩:=gJ h;refine mZ 0 (uZ (gN.mk f y aa) 2 co) ?_;refine goL ?_;refine mI 3 rfl rfl ?_;refine gW 4 rfl rfl ?_;refine gW 5 rfl rfl ?_;refine gW 6 rfl rfl ?_;refine jG ?_;obtain rfl:=Option.some.inj h;exact gCo [.d (.st [.s a8,.sl 1 (gP [[97]]),.sl 4 (jQ [(gT.mk [115,104,111,119] (gB.mk aq ar au))]),.sl 4 (uS [(uG.mk [120] (gB.mk av aw ax))]),.st [.i .i64 b6,.s b7,.sl 3 (gK b8)],.st [.i .i64 5,.s [115,104,111,119],.s [109],.i .i64 0,.st [.i .i64 0,.s [],.sl 3 []],.sl 9 (jS [(gU.mk ay a0 a3 a4 (gB.mk ak al am) a5 a6)]),.sl 11 []]])] [bCu b9 ca cb] ⟨rfl,rfl⟩
 ·refine goC h ?_ ?_<;>intro c9 h
  ·obtain⟨⟨ab,⟨bf,bg,bh⟩⟩,bd,h⟩:=gJ h;obtain⟨⟨ac,ad,ae⟩,be,h⟩:=gJ h;obtain⟨bc,h⟩:=pO h;refine qQ (P:=Tryz.prog) Mix.h (.q 2 (.h 0 (.h 1 (.h 3 (.h 4 (.q 5 (.q 6 (.h 7 (.h 8 (.q 9 (.h 10 .nil .nil)) .nil) .nil))) .nil) .nil) (.h 3 (.h 1 (.h 4 (.q 5 (.q 6 (.h 7 (.h 8 (.q 9 (.h 10 .nil .nil)) .nil) .nil))) .nil) (.h 4 (.q 5 (.q 6 (.h 1 (.h 7 (.h 8 (.q 9 (.h 10 .nil .nil)) .nil) .nil) (.h 7 (.h 1 (.h 8 (.q 9 (.h 10 .nil .nil)) .nil) .nil) .nil)))) .nil)) .nil)) (.h 3 (.h 0 (.h 1 (.h 4 (.q 5 (.q 6 (.h 7 (.h 8 (.q 9 (.h 10 .nil .nil)) .nil) .nil))) .nil) (.h 4 (.q 5 (.q 6 (.h 1 (.h 7 (.h 8 (.q 9 (.h 10 .nil .nil)) .nil) .nil) (.h 7 (.h 1 (.h 8 (.q 9 (.h 10 .nil .nil)) .nil) .nil) .nil)))) .nil)) (.h 4 (.q 5 (.q 6 (.h 0 (.h 1 (.h 7 (.h 8 (.q 9 (.h 10 .nil .nil)) .nil) .nil) (.h 7 (.h 1 (.h 8 (.q 9 (.h 10 .nil .nil)) .nil) .nil) .nil)) (.h 7 (.h 0 (.h 1 (.h 8 (.q 9 (.h 10 .nil .nil)) .nil) .nil) .nil) .nil)))) .nil)) .nil))) ⟨[(2,.ptr 1 0),(3,.ptr 7 0)],[bCu bf bg bh,.box [.S [],.nilsl,.nilsl,.nilsl,.I 0,.S [],.nilsl,.I 0,.S [],.S [],.I 0,.I 0,.S [],.nilsl,.nilsl,.nilsl],.frz 9 1 0 (gP [[102],[103]]),.own 9 1 0 (gP [[97]]),.arr 53 4 0 (jQ [(gT.mk [115,104,111,119] (gB.mk aq ar au))]),.arr 212 4 (0+1) (uS ([(uG.mk [120] (gB.mk av aw ax))]++[(uG.mk ab (gB.mk ac ad ae))])),.arr 101 9 0 (jS [(gU.mk ay a0 a3 a4 (gB.mk ak al am) a5 a6)]),.box [.S a8,.sl 3 0,.sl 4 0,.sl 5 (0+1),.I a9,.S ba,.L 3 (gK bb),.I 5,.d (.s [115,104,111,119]),.d (.s [109]),.I 0,.I 0,.S [],.nilsl,.sl 6 0,.nilsl],.frz 9 1 0 (gP [[120],[121]]),.arr 212 4 0 (uS [(uG.mk ab (gB.mk ac ad ae))])],Tryz.f103.ntmps⟩ (by kernel_rfl) ?_ ?_
   ·refine goT ?_;refine pR (jJ gQ) ?_ ?_
    ·refine pR (jJ gQ) ?_ ?_
     ·refine gH (pM (T:=34) (us:=gP [[120],[121]]) gQ) ?_;refine gH (mH 0 (jZ (gN.mk f y aa) [[120],[121]] bd) gQ) ?_;refine gFx (jO rfl (gG (gEi  be)) gQ) ?_;refine goT ?_;refine gH (jT (T:=174) (us:=uS [(uG.mk ab (gB.mk ac ad ae))]) gQ) ?_;refine gH (jR (T:=174) bc gQ) ?_;refine goT ?_;refine jB ?_;exact mK 1 [0,1,2,3,4,5,6,7,8,9]
     refine gH (pM (T:=34) (us:=gP [[120],[121]]) gQ) ?_;refine pR (jJ gQ) ?_ ?_
     ·refine gH (mH 0 (jZ (gN.mk f y aa) [[120],[121]] bd) gQ) ?_;refine gFx (jO rfl (gG (gEi  be)) gQ) ?_;refine goT ?_;refine gH (jT (T:=174) (us:=uS [(uG.mk ab (gB.mk ac ad ae))]) gQ) ?_;refine gH (jR (T:=174) bc gQ) ?_;refine goT ?_;refine jB ?_;exact mK 1 [0,1,2,3,4,5,6,7,8,9]
     refine gH (mH 0 (jZ (gN.mk f y aa) [[120],[121]] bd) gQ) ?_;refine gFx (jO rfl (gG (gEi  be)) gQ) ?_;refine goT ?_;refine pR (jJ gQ) ?_ ?_
     ·refine gH (jT (T:=174) (us:=uS [(uG.mk ab (gB.mk ac ad ae))]) gQ) ?_;refine gH (jR (T:=174) bc gQ) ?_;refine goT ?_;refine jB ?_;exact mK 1 [0,1,2,3,4,5,6,7,8,9]
     refine gH (jT (T:=174) (us:=uS [(uG.mk ab (gB.mk ac ad ae))]) gQ) ?_;refine gH (jJ gQ) ?_;refine gH (jR (T:=174) bc gQ) ?_;refine goT ?_;refine jB ?_;exact mK 1 [0,1,2,3,4,5,6,7,8,9]
    refine gH (pM (T:=34) (us:=gP [[120],[121]]) gQ) ?_;refine pR (jJ gQ) ?_ ?_
    ·refine pR (jJ gQ) ?_ ?_
     ·refine gH (mH 0 (jZ (gN.mk f y aa) [[120],[121]] bd) gQ) ?_;refine gFx (jO rfl (gG (gEi  be)) gQ) ?_;refine goT ?_;refine gH (jT (T:=174) (us:=uS [(uG.mk ab (gB.mk ac ad ae))]) gQ) ?_;refine gH (jR (T:=174) bc gQ) ?_;refine goT ?_;refine jB ?_;exact mK 1 [0,1,2,3,4,5,6,7,8,9]
     refine gH (mH 0 (jZ (gN.mk f y aa) [[120],[121]] bd) gQ) ?_;refine gFx (jO rfl (gG (gEi  be)) gQ) ?_;refine goT ?_;refine pR (jJ gQ) ?_ ?_
     ·refine gH (jT (T:=174) (us:=uS [(uG.mk ab (gB.mk ac ad ae))]) gQ) ?_;refine gH (jR (T:=174) bc gQ) ?_;refine goT ?_;refine jB ?_;exact mK 1 [0,1,2,3,4,5,6,7,8,9]
     refine gH (jT (T:=174) (us:=uS [(uG.mk ab (gB.mk ac ad ae))]) gQ) ?_;refine gH (jJ gQ) ?_;refine gH (jR (T:=174) bc gQ) ?_;refine goT ?_;refine jB ?_;exact mK 1 [0,1,2,3,4,5,6,7,8,9]
    refine gH (mH 0 (jZ (gN.mk f y aa) [[120],[121]] bd) gQ) ?_;refine gFx (jO rfl (gG (gEi  be)) gQ) ?_;refine goT ?_;refine pR (jJ gQ) ?_ ?_
    ·refine pR (jJ gQ) ?_ ?_
     ·refine gH (jT (T:=174) (us:=uS [(uG.mk ab (gB.mk ac ad ae))]) gQ) ?_;refine gH (jR (T:=174) bc gQ) ?_;refine goT ?_;refine jB ?_;exact mK 1 [0,1,2,3,4,5,6,7,8,9]
     refine gH (jT (T:=174) (us:=uS [(uG.mk ab (gB.mk ac ad ae))]) gQ) ?_;refine gH (jJ gQ) ?_;refine gH (jR (T:=174) bc gQ) ?_;refine goT ?_;refine jB ?_;exact mK 1 [0,1,2,3,4,5,6,7,8,9]
    refine gH (jT (T:=174) (us:=uS [(uG.mk ab (gB.mk ac ad ae))]) gQ) ?_;refine gH (jJ gQ) ?_;refine gH (jJ gQ) ?_;refine gH (jR (T:=174) bc gQ) ?_;refine goT ?_;refine jB ?_;exact mK 1 [0,1,2,3,4,5,6,7,8,9]
   refine goL ?_;refine mI 3 rfl rfl ?_;refine gW 4 rfl rfl ?_;refine gW 5 rfl rfl ?_;refine gW 6 rfl rfl ?_;refine jG ?_;obtain rfl:=Option.some.inj h;exact gCo [.d (.st [.s a8,.sl 1 (gP [[97]]),.sl 4 (jQ [(gT.mk [115,104,111,119] (gB.mk aq ar au))]),.sl 4 (uS ([(uG.mk [120] (gB.mk av aw ax))]++[(uG.mk ab (gB.mk ac ad ae))])),.st [.i .i64 a9,.s ba,.sl 3 (gK bb)],.st [.i .i64 5,.s [115,104,111,119],.s [109],.i .i64 0,.st [.i .i64 0,.s [],.sl 3 []],.sl 9 (jS [(gU.mk ay a0 a3 a4 (gB.mk ak al am) a5 a6)]),.sl 11 []]])] [bCu bf bg bh] ⟨rfl,rfl⟩
  ·refine goC h ?_ ?_<;>intro cs h
   ·refine goL ?_;refine gAg (us:=gP [[120],[121]]) ?_;refine mD 8 rfl rfl ?_;obtain⟨⟨⟨bo,bp,bq,br,⟨bl,bm,bn⟩,bt,bu⟩,⟨bv,bw,bx⟩⟩,cd,h⟩:=gJ h;refine mZ 0 (qP 5000 (gN.mk f y aa) [[120],[121]] 3 cd) ?_;refine goL ?_;refine mI 3 rfl rfl ?_;refine gW 4 rfl rfl ?_;refine gW 5 rfl rfl ?_;refine jG ?_;obtain rfl:=Option.some.inj h;exact gCo [.d (.st [.s a8,.sl 1 (gP [[97]]),.sl 4 (jQ [(gT.mk [115,104,111,119] (gB.mk aq ar au))]),.sl 4 (uS [(uG.mk [120] (gB.mk av aw ax))]),.st [.i .i64 a9,.s ba,.sl 3 (gK bb)],.st [.i .i64 bo,.s bp,.s bq,.i .i64 br,.st [.i .i64 bl,.s bm,.sl 3 (gK bn)],.sl 9 (jS bt),.sl 11 (mW bu)]])] [bCu bv bw bx] ⟨rfl,rfl⟩
   ·refine goC h ?_ ?_<;>intro ct h
    ·obtain⟨⟨⟨ag,ah,ai⟩,⟨bi,bj,bk⟩⟩,bz,h⟩:=gJ h;obtain⟨cp,a7,h⟩:=gJ h;obtain⟨cq,a7⟩:=gAz a7;obtain⟨aj,⟨an,ao,ap⟩⟩:=cp;refine qQ (P:=Tryz.prog) Mix.h (.q 2 (.h 0 (.h 1 (.h 3 (.h 4 (.h 5 (.h 6 .nil .nil) .nil) .nil) .nil) (.h 3 (.h 1 (.h 4 (.h 5 (.h 6 .nil .nil) .nil) .nil) .nil) .nil)) (.h 3 (.h 0 (.h 1 (.h 4 (.h 5 (.h 6 .nil .nil) .nil) .nil) .nil) .nil) .nil))) ⟨[(2,.ptr 1 0),(3,.ptr 7 0)],[bCu bi bj bk,.box [.S [],.nilsl,.nilsl,.nilsl,.I 0,.S [],.nilsl,.I 0,.S [],.S [],.I 0,.I 0,.S [],.nilsl,.nilsl,.nilsl],.frz 9 1 0 (gP [[102],[103]]),.own 9 1 0 (gP [[97]]),.arr 53 4 0 (jQ ([(gT.mk [115,104,111,119] (gB.mk aq ar au))].set 0 (gT.mk aj (gB.mk ag ah ai)))),.arr 212 4 0 (uS [(uG.mk [120] (gB.mk av aw ax))]),.arr 101 9 0 (jS [(gU.mk ay a0 a3 a4 (gB.mk ak al am) a5 a6)]),.box [.S a8,.sl 3 0,.sl 4 0,.sl 5 0,.I a9,.S ba,.L 3 (gK bb),.I 5,.d (.s [115,104,111,119]),.d (.s [109]),.I 0,.I 0,.S [],.nilsl,.sl 6 0,.nilsl]],Tryz.f103.ntmps⟩ (by kernel_rfl) ?_ ?_
     ·refine goT ?_;refine pR (jJ gQ) ?_ ?_
      ·refine pR (jJ gQ) ?_ ?_
       ·refine gH (mH 0 (uZ (gN.mk f y aa) 1 bz) gQ) ?_;refine gH (qL 0 (List.getElem?_eq_some_iff.1 a7).1 gQ) ?_;refine gH (qN gQ) ?_;refine gH (qO [(.s aj)] [] (.st [.i .i64 an,.s ao,.sl 3 (gK ap)]) (.st [.i .i64 ag,.s ah,.sl 3 (gK ai)]) (gT.mk aj (gB.mk an ao ap)) (gT.mk aj (gB.mk ag ah ai)) a7 gQ) ?_;refine jB ?_;exact mK 1 [0,1,2,3,4,5,6,7]
       refine gH (mH 0 (uZ (gN.mk f y aa) 1 bz) gQ) ?_;refine gH (jJ gQ) ?_;refine gH (qL 0 (List.getElem?_eq_some_iff.1 a7).1 gQ) ?_;refine gH (qN gQ) ?_;refine gH (qO [(.s aj)] [] (.st [.i .i64 an,.s ao,.sl 3 (gK ap)]) (.st [.i .i64 ag,.s ah,.sl 3 (gK ai)]) (gT.mk aj (gB.mk an ao ap)) (gT.mk aj (gB.mk ag ah ai)) a7 gQ) ?_;refine jB ?_;exact mK 1 [0,1,2,3,4,5,6,7]
      refine gH (mH 0 (uZ (gN.mk f y aa) 1 bz) gQ) ?_;refine gH (jJ gQ) ?_;refine gH (jJ gQ) ?_;refine gH (qL 0 (List.getElem?_eq_some_iff.1 a7).1 gQ) ?_;refine gH (qN gQ) ?_;refine gH (qO [(.s aj)] [] (.st [.i .i64 an,.s ao,.sl 3 (gK ap)]) (.st [.i .i64 ag,.s ah,.sl 3 (gK ai)]) (gT.mk aj (gB.mk an ao ap)) (gT.mk aj (gB.mk ag ah ai)) a7 gQ) ?_;refine jB ?_;exact mK 1 [0,1,2,3,4,5,6,7]
     refine goL ?_;refine mI 3 rfl rfl ?_;refine gW 4 rfl rfl ?_;refine gW 5 rfl rfl ?_;refine gW 6 rfl rfl ?_;refine jG ?_;obtain rfl:=Option.some.inj h;exact gCo [.d (.st [.s a8,.sl 1 (gP [[97]]),.sl 4 (jQ ([(gT.mk [115,104,111,119] (gB.mk aq ar au))].set 0 (gT.mk aj (gB.mk ag ah ai)))),.sl 4 (uS [(uG.mk [120] (gB.mk av aw ax))]),.st [.i .i64 a9,.s ba,.sl 3 (gK bb)],.st [.i .i64 5,.s [115,104,111,119],.s [109],.i .i64 0,.st [.i .i64 0,.s [],.sl 3 []],.sl 9 (jS [(gU.mk ay a0 a3 a4 (gB.mk ak al am) a5 a6)]),.sl 11 []]])] [bCu bi bj bk] ⟨rfl,rfl⟩
    ·refine goC h ?_ ?_<;>intro cu h
     ·refine goL ?_;refine gAg (us:=gP [[],[105,102]]) ?_;refine mD 8 rfl rfl ?_;obtain⟨⟨cc,⟨b0,b1,b2⟩⟩,ce,h⟩:=gJ h;refine mZ 0 (jZ (gN.mk f y aa) [[],[105,102]] ce) ?_;refine goL ?_;refine mI 3 rfl rfl ?_;refine gW 4 rfl rfl ?_;refine gW 5 rfl rfl ?_;refine gW 6 rfl rfl ?_;refine jG ?_;obtain rfl:=Option.some.inj h;exact gCo [.d (.st [.s cc,.sl 1 (gP [[97]]),.sl 4 (jQ [(gT.mk [115,104,111,119] (gB.mk aq ar au))]),.sl 4 (uS [(uG.mk [120] (gB.mk av aw ax))]),.st [.i .i64 a9,.s ba,.sl 3 (gK bb)],.st [.i .i64 5,.s [115,104,111,119],.s [109],.i .i64 0,.st [.i .i64 0,.s [],.sl 3 []],.sl 9 (jS [(gU.mk ay a0 a3 a4 (gB.mk ak al am) a5 a6)]),.sl 11 []]])] [bCu b0 b1 b2] ⟨rfl,rfl⟩
     ·refine goS ?_;refine mI 3 rfl rfl ?_;refine gW 4 rfl rfl ?_;refine gW 5 rfl rfl ?_;refine gW 6 rfl rfl ?_;refine jG ?_;obtain rfl:=Option.some.inj h;exact gCo [.d (.st [.s a8,.sl 1 (gP [[97]]),.sl 4 (jQ [(gT.mk [115,104,111,119] (gB.mk aq ar au))]),.sl 4 (uS [(uG.mk [120] (gB.mk av aw ax))]),.st [.i .i64 a9,.s ba,.sl 3 (gK bb)],.st [.i .i64 5,.s [115,104,111,119],.s [109],.i .i64 0,.st [.i .i64 0,.s [],.sl 3 []],.sl 9 (jS [(gU.mk ay a0 a3 a4 (gB.mk ak al am) a5 a6)]),.sl 11 []]])] [bCu f y aa] ⟨rfl,rfl⟩
end Go.Proofs.YtfpdlnkkcnmebaaGreat
