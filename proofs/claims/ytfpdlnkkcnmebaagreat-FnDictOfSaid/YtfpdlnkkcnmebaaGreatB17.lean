import Derived.Test.YtfpdlnkkcnmebaaGreatB12
import Derived.Test.YtfpdlnkkcnmebaaGreatB13
set_option maxHeartbeats 4000000
set_option linter.unusedVariables false
set_option linter.unusedSimpArgs false
set_option linter.unusedSectionVars false
namespace Go.Proofs.YtfpdlnkkcnmebaaGreat
open Go Go.Eng
attribute [local irreducible] V VO VQ VY Quiet QR jI mK Rng qE qA pX
def gQf(c:gK):Option (kX × gK):=
bnd (pK c [[102],[103]]) fun x1=>
lt_ (vZ [97]) fun h=>
lt_ (vZ [97]) fun q=>
bnd (gFo ) fun x4=>
lt_ (gJn [120]) fun x5=>
bnd (kW x1.2 10) fun f=>
(cnd (f.1==0) (
bnd (zT f.2 2) fun x8=>
(some ((kX.mk x1.1 [[97]] [(gP.mk [115,104,111,119] h)] [(vQ.mk [120] q)] x8.1 (gY.mk 5 [115,104,111,119] [109] 0 (gB.mk 0 [] []) [x5] [])),x8.2))) (
(cnd (f.1==1) (
bnd (pK f.2 [[120],[121]]) fun y=>
bnd (gFo ) fun ad=>
gd ([(vQ.mk [120] q)].length+[(vQ.mk y.1 ad)].length≤4294967296) (
(some ((kX.mk x1.1 [[97]] [(gP.mk [115,104,111,119] h)] ([(vQ.mk [120] q)]++[(vQ.mk y.1 ad)]) x4 (gY.mk 5 [115,104,111,119] [109] 0 (gB.mk 0 [] []) [x5] [])),y.2)))) (
(cnd (f.1==2) (
bnd (gB7 5000 f.2 [[120],[121]] 3) fun ae=>
(some ((kX.mk x1.1 [[97]] [(gP.mk [115,104,111,119] h)] [(vQ.mk [120] q)] x4 ae.1),ae.2))) (
(cnd (f.1==3) (
bnd (zT f.2 1) fun ag=>
bnd (at? [(gP.mk [115,104,111,119] h)] 0) fun ai=>
(some ((kX.mk x1.1 [[97]] ([(gP.mk [115,104,111,119] h)].set 0 (gP.mk ai.trait ag.1)) [(vQ.mk [120] q)] x4 (gY.mk 5 [115,104,111,119] [109] 0 (gB.mk 0 [] []) [x5] [])),ag.2))) (
(cnd (f.1==4) (
bnd (pK f.2 [[],[105,102]]) fun ah=>
(some ((kX.mk ah.1 [[97]] [(gP.mk [115,104,111,119] h)] [(vQ.mk [120] q)] x4 (gY.mk 5 [115,104,111,119] [109] 0 (gB.mk 0 [] []) [x5] [])),ah.2))) (
(some ((kX.mk x1.1 [[97]] [(gP.mk [115,104,111,119] h)] [(vQ.mk [120] q)] x4 (gY.mk 5 [115,104,111,119] [109] 0 (gB.mk 0 [] []) [x5] [])),f.2))))))))))))
theorem hB6(c:gK){r:kX × gK}(h:gQf c=some r):Go.Eng.Spec Tryz.prog 103 [.ptr 0 0] [bCu c.b c.i c.h] (fun sv Lo=>sv=.d (gEu r.1)∧Lo=[bCu r.2.b r.2.i r.2.h]):=by
 obtain⟨cf,cg,ch⟩:=c;unfold gQf at h;refine kJ 1 Tryz.func103 rfl (by kernel_rfl) rfl rfl fun A _=>?_;refine goL ?_;refine yQ (us:=gT [[102],[103]]) ?_;refine kS 2 rfl rfl ?_;obtain⟨⟨a7,⟨b1,b2,b3⟩⟩,ci,h⟩:=gJ h;refine mI 0 (kZ (gK.mk cf cg ch) [[102],[103]] ci) ?_;refine wX ([97]:LB) ?_;obtain⟨⟨an,ao,ap⟩,cj,h⟩:=uK h;have sx2:=gCl [97];rw [cj] at sx2;refine uN (gI (sx2)) ?_;refine vP (jN TBd.h TZ.h rfl (by repeat constructor)) ?_;refine yQ (us:=kC [(gP.mk [115,104,111,119] (gB.mk an ao ap))]) ?_;obtain⟨⟨aq,ar,au⟩,ck,h⟩:=uK h;have sx3:=gCl [97];rw [ck] at sx3;refine uN (gI (sx3)) ?_;refine vP (jN TBd.h TZ.h rfl (by repeat constructor)) ?_;refine yQ (us:=yN [(vQ.mk [120] (gB.mk aq ar au))]) ?_;obtain⟨⟨a8,a9,ba⟩,cl,h⟩:=gJ h;refine uN (gI (gH0  cl)) ?_;obtain⟨⟨ay,a0,a3,a4,⟨ab,ac,ad⟩,a5,a6⟩,cm,h⟩:=uK h;have sx5:=gPh [120];rw [cm] at sx5;refine uN (gI (sx5)) ?_;refine yQ (us:=kQ [(gY.mk ay a0 a3 a4 (gB.mk ab ac ad) a5 a6)]) ?_;refine vP (jN TBd.h TZ.h rfl (by repeat constructor)) ?_;refine yT (jN TBd.h TZ.h rfl (by repeat constructor)) ?_;obtain⟨⟨cr,⟨f,y,aa⟩⟩,cn,h⟩:=gJ h;refine mI 0 (mH (gK.mk b1 b2 b3) 10 cn) ?_;refine goL ?_;refine jA ?_;refine goC h ?_ ?_<;>intro c7 h
 ·refine goL ?_;obtain⟨⟨⟨b4,b5,b6⟩,⟨b7,b8,b9⟩⟩,co,h⟩:=gJ h;refine mI 0 (zU (gK.mk f y aa) 2 co) ?_;refine goL ?_;refine mP 3 rfl rfl ?_;refine gV 4 rfl rfl ?_;refine gV 5 rfl rfl ?_;refine gV 6 rfl rfl ?_;refine jF ?_;obtain rfl:=Option.some.inj h;exact gB5 [.d (.st [.s a7,.sl 1 (gT [[97]]),.sl 4 (kC [(gP.mk [115,104,111,119] (gB.mk an ao ap))]),.sl 4 (yN [(vQ.mk [120] (gB.mk aq ar au))]),.st [.i .i64 b4,.s b5,.sl 3 (gN b6)],.st [.i .i64 5,.s [115,104,111,119],.s [109],.i .i64 0,.st [.i .i64 0,.s [],.sl 3 []],.sl 9 (kQ [(gY.mk ay a0 a3 a4 (gB.mk ab ac ad) a5 a6)]),.sl 11 []]])] [bCu b7 b8 b9] ⟨rfl,rfl⟩
 ·refine goC h ?_ ?_<;>intro c9 h
  ·obtain⟨⟨aj,⟨bc,bd,be⟩⟩,bl,h⟩:=gJ h;obtain⟨⟨ak,al,am⟩,bm,h⟩:=gJ h;obtain⟨ca,h⟩:=pU h;refine qY (P:=Tryz.prog) Mix.h (.q 0 (.q 2 (.h 1 (hcT 3 (hcT 4 (.q 5 (.q 6 (hcT 7 (hcT 8 (.q 9 (hzT 10)))))))) (hcT 3 (.h 1 (hcT 4 (.q 5 (.q 6 (hcT 7 (hcT 8 (.q 9 (hzT 10))))))) (hcT 4 (.q 5 (.q 6 (.h 1 (hcT 7 (hcT 8 (.q 9 (hzT 10)))) (hcT 7 (hcT 1 (hcT 8 (.q 9 (hzT 10)))))))))))))) ⟨[(2,.ptr 1 0),(3,.ptr 7 0)],[bCu bc bd be,.box [.S [],.nilsl,.nilsl,.nilsl,.I 0,.S [],.nilsl,.I 0,.S [],.S [],.I 0,.I 0,.S [],.nilsl,.nilsl,.nilsl],.frz 9 1 0 (gT [[102],[103]]),.own 9 1 0 (gT [[97]]),.arr 53 4 0 (kC [(gP.mk [115,104,111,119] (gB.mk an ao ap))]),.arr 212 4 (0+1) (yN ([(vQ.mk [120] (gB.mk aq ar au))]++[(vQ.mk aj (gB.mk ak al am))])),.arr 101 9 0 (kQ [(gY.mk ay a0 a3 a4 (gB.mk ab ac ad) a5 a6)]),.box [.S a7,.sl 3 0,.sl 4 0,.sl 5 (0+1),.I a8,.S a9,.L 3 (gN ba),.I 5,.d (.s [115,104,111,119]),.d (.s [109]),.I 0,.I 0,.S [],.nilsl,.sl 6 0,.nilsl],.frz 9 1 0 (gT [[120],[121]]),.arr 212 4 0 (yN [(vQ.mk aj (gB.mk ak al am))])],Tryz.f103.ntmps⟩ (by kernel_rfl) ?_ ?_
   ·refine mU ?_;refine uD (kF gZ) ?_ ?_
    ·refine gQ (uE (T:=34) (us:=gT [[120],[121]]) gZ) ?_;refine gQ (qU 0 (kZ (gK.mk f y aa) [[120],[121]] bl) gZ) ?_;refine gGt (jW rfl (gI (gH0  bm)) gZ) ?_;refine mU ?_;refine gQ (kT (T:=174) (us:=yN [(vQ.mk aj (gB.mk ak al am))]) gZ) ?_;refine gQ (kN (T:=174) ca gZ) ?_;refine mU ?_;refine jL ?_;exact pQ 1 [0,1,2,3,4,5,6,7,8,9]
    refine gQ (uE (T:=34) (us:=gT [[120],[121]]) gZ) ?_;refine uD (kF gZ) ?_ ?_
    ·refine gQ (qU 0 (kZ (gK.mk f y aa) [[120],[121]] bl) gZ) ?_;refine gGt (jW rfl (gI (gH0  bm)) gZ) ?_;refine mU ?_;refine gQ (kT (T:=174) (us:=yN [(vQ.mk aj (gB.mk ak al am))]) gZ) ?_;refine gQ (kN (T:=174) ca gZ) ?_;refine mU ?_;refine jL ?_;exact pQ 1 [0,1,2,3,4,5,6,7,8,9]
    refine gQ (qU 0 (kZ (gK.mk f y aa) [[120],[121]] bl) gZ) ?_;refine gGt (jW rfl (gI (gH0  bm)) gZ) ?_;refine mU ?_;refine uD (kF gZ) ?_ ?_
    ·refine gQ (kT (T:=174) (us:=yN [(vQ.mk aj (gB.mk ak al am))]) gZ) ?_;refine gQ (kN (T:=174) ca gZ) ?_;refine mU ?_;refine jL ?_;exact pQ 1 [0,1,2,3,4,5,6,7,8,9]
    refine gQ (kT (T:=174) (us:=yN [(vQ.mk aj (gB.mk ak al am))]) gZ) ?_;refine gQ (kF gZ) ?_;refine gQ (kN (T:=174) ca gZ) ?_;refine mU ?_;refine jL ?_;exact pQ 1 [0,1,2,3,4,5,6,7,8,9]
   refine goL ?_;refine mP 3 rfl rfl ?_;refine gV 4 rfl rfl ?_;refine gV 5 rfl rfl ?_;refine gV 6 rfl rfl ?_;refine jF ?_;obtain rfl:=Option.some.inj h;exact gB5 [.d (.st [.s a7,.sl 1 (gT [[97]]),.sl 4 (kC [(gP.mk [115,104,111,119] (gB.mk an ao ap))]),.sl 4 (yN ([(vQ.mk [120] (gB.mk aq ar au))]++[(vQ.mk aj (gB.mk ak al am))])),.st [.i .i64 a8,.s a9,.sl 3 (gN ba)],.st [.i .i64 5,.s [115,104,111,119],.s [109],.i .i64 0,.st [.i .i64 0,.s [],.sl 3 []],.sl 9 (kQ [(gY.mk ay a0 a3 a4 (gB.mk ab ac ad) a5 a6)]),.sl 11 []]])] [bCu bc bd be] ⟨rfl,rfl⟩
  ·refine goC h ?_ ?_<;>intro cs h
   ·refine goL ?_;refine yQ (us:=gT [[120],[121]]) ?_;refine kS 8 rfl rfl ?_;obtain⟨⟨⟨bn,bo,bp,bq,⟨bi,bj,bk⟩,br,bt⟩,⟨bu,bv,bw⟩⟩,cd,h⟩:=gJ h;refine mI 0 (gAq 5000 (gK.mk f y aa) [[120],[121]] 3 cd) ?_;refine goL ?_;refine mP 3 rfl rfl ?_;refine gV 4 rfl rfl ?_;refine gV 5 rfl rfl ?_;refine jF ?_;obtain rfl:=Option.some.inj h;exact gB5 [.d (.st [.s a7,.sl 1 (gT [[97]]),.sl 4 (kC [(gP.mk [115,104,111,119] (gB.mk an ao ap))]),.sl 4 (yN [(vQ.mk [120] (gB.mk aq ar au))]),.st [.i .i64 a8,.s a9,.sl 3 (gN ba)],.st [.i .i64 bn,.s bo,.s bp,.i .i64 bq,.st [.i .i64 bi,.s bj,.sl 3 (gN bk)],.sl 9 (kQ br),.sl 11 (uZ bt)]])] [bCu bu bv bw] ⟨rfl,rfl⟩
   ·refine goC h ?_ ?_<;>intro ct h
    ·obtain⟨⟨⟨ae,ag,ah⟩,⟨bf,bg,bh⟩⟩,cb,h⟩:=gJ h;obtain⟨cp,bb,h⟩:=gJ h;obtain⟨cq,bb⟩:=gBm bb;obtain⟨ai,⟨av,aw,ax⟩⟩:=cp;refine qY (P:=Tryz.prog) Mix.h (.q 0 (.q 2 (.h 1 (hcT 3 (hcT 4 (hcT 5 (hzT 6)))) (hcT 3 (hcT 1 (hcT 4 (hcT 5 (hzT 6)))))))) ⟨[(2,.ptr 1 0),(3,.ptr 7 0)],[bCu bf bg bh,.box [.S [],.nilsl,.nilsl,.nilsl,.I 0,.S [],.nilsl,.I 0,.S [],.S [],.I 0,.I 0,.S [],.nilsl,.nilsl,.nilsl],.frz 9 1 0 (gT [[102],[103]]),.own 9 1 0 (gT [[97]]),.arr 53 4 0 (kC ([(gP.mk [115,104,111,119] (gB.mk an ao ap))].set 0 (gP.mk ai (gB.mk ae ag ah)))),.arr 212 4 0 (yN [(vQ.mk [120] (gB.mk aq ar au))]),.arr 101 9 0 (kQ [(gY.mk ay a0 a3 a4 (gB.mk ab ac ad) a5 a6)]),.box [.S a7,.sl 3 0,.sl 4 0,.sl 5 0,.I a8,.S a9,.L 3 (gN ba),.I 5,.d (.s [115,104,111,119]),.d (.s [109]),.I 0,.I 0,.S [],.nilsl,.sl 6 0,.nilsl]],Tryz.f103.ntmps⟩ (by kernel_rfl) ?_ ?_
     ·refine mU ?_;refine uD (kF gZ) ?_ ?_
      ·refine gQ (qU 0 (zU (gK.mk f y aa) 1 cb) gZ) ?_;refine gQ (gAo 0 (List.getElem?_eq_some_iff.1 bb).1 gZ) ?_;refine gQ (gA6 gZ) ?_;refine gQ (gA7 [(.s ai)] [] (.st [.i .i64 av,.s aw,.sl 3 (gN ax)]) (.st [.i .i64 ae,.s ag,.sl 3 (gN ah)]) (gP.mk ai (gB.mk av aw ax)) (gP.mk ai (gB.mk ae ag ah)) bb gZ) ?_;refine jL ?_;exact pQ 1 [0,1,2,3,4,5,6,7]
      refine gQ (qU 0 (zU (gK.mk f y aa) 1 cb) gZ) ?_;refine gQ (kF gZ) ?_;refine gQ (gAo 0 (List.getElem?_eq_some_iff.1 bb).1 gZ) ?_;refine gQ (gA6 gZ) ?_;refine gQ (gA7 [(.s ai)] [] (.st [.i .i64 av,.s aw,.sl 3 (gN ax)]) (.st [.i .i64 ae,.s ag,.sl 3 (gN ah)]) (gP.mk ai (gB.mk av aw ax)) (gP.mk ai (gB.mk ae ag ah)) bb gZ) ?_;refine jL ?_;exact pQ 1 [0,1,2,3,4,5,6,7]
     refine goL ?_;refine mP 3 rfl rfl ?_;refine gV 4 rfl rfl ?_;refine gV 5 rfl rfl ?_;refine gV 6 rfl rfl ?_;refine jF ?_;obtain rfl:=Option.some.inj h;exact gB5 [.d (.st [.s a7,.sl 1 (gT [[97]]),.sl 4 (kC ([(gP.mk [115,104,111,119] (gB.mk an ao ap))].set 0 (gP.mk ai (gB.mk ae ag ah)))),.sl 4 (yN [(vQ.mk [120] (gB.mk aq ar au))]),.st [.i .i64 a8,.s a9,.sl 3 (gN ba)],.st [.i .i64 5,.s [115,104,111,119],.s [109],.i .i64 0,.st [.i .i64 0,.s [],.sl 3 []],.sl 9 (kQ [(gY.mk ay a0 a3 a4 (gB.mk ab ac ad) a5 a6)]),.sl 11 []]])] [bCu bf bg bh] ⟨rfl,rfl⟩
    ·refine goC h ?_ ?_<;>intro cu h
     ·refine goL ?_;refine yQ (us:=gT [[],[105,102]]) ?_;refine kS 8 rfl rfl ?_;obtain⟨⟨cc,⟨bx,bz,b0⟩⟩,ce,h⟩:=gJ h;refine mI 0 (kZ (gK.mk f y aa) [[],[105,102]] ce) ?_;refine goL ?_;refine mP 3 rfl rfl ?_;refine gV 4 rfl rfl ?_;refine gV 5 rfl rfl ?_;refine gV 6 rfl rfl ?_;refine jF ?_;obtain rfl:=Option.some.inj h;exact gB5 [.d (.st [.s cc,.sl 1 (gT [[97]]),.sl 4 (kC [(gP.mk [115,104,111,119] (gB.mk an ao ap))]),.sl 4 (yN [(vQ.mk [120] (gB.mk aq ar au))]),.st [.i .i64 a8,.s a9,.sl 3 (gN ba)],.st [.i .i64 5,.s [115,104,111,119],.s [109],.i .i64 0,.st [.i .i64 0,.s [],.sl 3 []],.sl 9 (kQ [(gY.mk ay a0 a3 a4 (gB.mk ab ac ad) a5 a6)]),.sl 11 []]])] [bCu bx bz b0] ⟨rfl,rfl⟩
     ·refine goS ?_;refine mP 3 rfl rfl ?_;refine gV 4 rfl rfl ?_;refine gV 5 rfl rfl ?_;refine gV 6 rfl rfl ?_;refine jF ?_;obtain rfl:=Option.some.inj h;exact gB5 [.d (.st [.s a7,.sl 1 (gT [[97]]),.sl 4 (kC [(gP.mk [115,104,111,119] (gB.mk an ao ap))]),.sl 4 (yN [(vQ.mk [120] (gB.mk aq ar au))]),.st [.i .i64 a8,.s a9,.sl 3 (gN ba)],.st [.i .i64 5,.s [115,104,111,119],.s [109],.i .i64 0,.st [.i .i64 0,.s [],.sl 3 []],.sl 9 (kQ [(gY.mk ay a0 a3 a4 (gB.mk ab ac ad) a5 a6)]),.sl 11 []]])] [bCu f y aa] ⟨rfl,rfl⟩
def gI5(c:gK):Option (gP × gK):=
bnd (gLu 5000 c [[97],[98]] 3) fun x1=>
bnd (kW x1.2 8) fun f=>
bnd ((cnd (f.1==0) (
bnd (zT f.2 2) fun y=>
(some (y.2.b,y.2.i,y.2.h,y.1.kind,y.1.name,y.1.args))) (
(cnd (f.1==1) (
bnd (gBa [116,97,103] []) fun x7=>
(some (f.2.b,f.2.i,f.2.h,x7.kind,x7.name,x7.args))) (
(cnd (f.1==2) (
bnd (pK f.2 [[116,97,103],[105,110,116],[98,111,111,108]]) fun x9=>
bnd (gBa x9.1 []) fun ag=>
bnd (gBa [108,105,115,116] [ag]) fun q=>
(some (x9.2.b,x9.2.i,x9.2.h,q.kind,q.name,q.args))) (
(some (f.2.b,f.2.i,f.2.h,x1.1.kind,x1.1.name,x1.1.args))))))))) fun b3=>
bnd (pK (gK.mk b3.1 b3.2.1 b3.2.2.1) [[115,104,111,119],[115,104,111,119],[101,113],[111,114,100],[97,100,100],[115,101,110,100],[122,122]]) fun ab=>
(some ((gP.mk ab.1 (gB.mk b3.2.2.2.1 b3.2.2.2.2.1 b3.2.2.2.2.2)),ab.2))
theorem gI6(c:gK){r:gP × gK}(h:gI5 c=some r):Go.Eng.Spec Tryz.prog 64 [.ptr 0 0] [bCu c.b c.i c.h] (fun sv Lo=>sv=.d (yF r.1)∧Lo=[bCu r.2.b r.2.i r.2.h]):=by
 obtain⟨bc,bd,be⟩:=c;unfold gI5 at h;refine kJ 1 Tryz.func64 rfl (by kernel_rfl) rfl rfl fun A _=>?_;refine goL ?_;refine yQ (us:=gT [[97],[98]]) ?_;obtain⟨⟨⟨av,aw,ax⟩,⟨f,y,aa⟩⟩,bf,h⟩:=gJ h;refine gBz [0,2] (gUs 5000 (gK.mk bc bd be) [[97],[98]] 3 0 bf) ?_;rintro _ _ ⟨rfl,rfl⟩;show VO _ _ _ _ ⟨(_,.d (.st [.i .i64 av,.s aw,.sl 3 (gN ax)]))::_,[bCu f y aa,.box [.S [],.I 0,.S [],.nilsl],.arr 9 1 0 (gT [[97],[98]])],_⟩ _;refine goL ?_;obtain⟨⟨bq,⟨ab,ac,ad⟩⟩,bg,h⟩:=gJ h;refine mI 0 (mH (gK.mk f y aa) 8 bg) ?_;refine goL ?_;obtain⟨⟨ae,ag,ah,ai,aj,ak⟩,hb3,h⟩:=gJ h;refine wY ⟨[(0,.ptr 0 0),(2,.ptr 1 0),(3,.ptr 3 0)],[bCu ae ag ah,.box [.S [],.I 0,.S [],.nilsl],.arr 9 1 0 (gT [[97],[98]]),bTy ai aj ak],Tryz.f64.ntmps⟩ ?_ ?_
 ·refine jA ?_;refine goL ?_;refine mR (fun c4=>?_) (fun c4=>?_)
  ·replace hb3:=kU c4 hb3;refine goL ?_;obtain⟨⟨⟨a3,a4,a5⟩,⟨a6,a7,a8⟩⟩,bi,hb3⟩:=gJ hb3;refine mI 0 (zU (gK.mk ab ac ad) 2 bi) ?_;refine goL ?_;cases hb3;exact eJ
  ·replace hb3:=kV c4 hb3;refine goL ?_;refine mR (fun c6=>?_) (fun c6=>?_)
   ·replace hb3:=kU c6 hb3;refine goL ?_;obtain⟨⟨br,bt,bu⟩,bk,hb3⟩:=gJ hb3;refine jP (gI (gDy _ _ bk)) ?_;cases hb3;exact eJ
   ·replace hb3:=kV c6 hb3;refine goL ?_;refine mR (fun c8=>?_) (fun c8=>?_)
    ·replace hb3:=kU c8 hb3;refine goL ?_;refine yQ (us:=gT [[116,97,103],[105,110,116],[98,111,111,108]]) ?_;refine kS 4 rfl rfl ?_;obtain⟨⟨bv,⟨a9,ba,bb⟩⟩,bm,hb3⟩:=gJ hb3;refine mI 0 (kZ (gK.mk ab ac ad) [[116,97,103],[105,110,116],[98,111,111,108]] bm) ?_;obtain⟨⟨al,am,an⟩,ay,hb3⟩:=gJ hb3;refine uN (gI (gDy _ _ ay)) ?_;refine uO (u:=(.st [.i .i64 al,.s am,.sl 3 (gN an)])) ?_;refine kS 5 rfl rfl ?_;obtain⟨⟨bn,bo,bp⟩,a0,hb3⟩:=gJ hb3;refine yT (gRe (gDy [108,105,115,116] [(gB.mk al am an)] a0)) ?_;cases hb3;exact eJ
    ·replace hb3:=kV c8 hb3;refine vN ?_;cases hb3;exact eJ
 refine gIb ?_;obtain⟨⟨ao,⟨ap,aq,ar⟩⟩,au,h⟩:=gJ h;refine uC (P:=Tryz.prog) Mix.h (.q 0 (.h 1 (.h 2 (hcT 3 (.q 4 (hzT 5))) (hcT 3 (hcT 2 (.q 4 (hzT 5))))) (hcT 3 (hcT 1 (hcT 2 (.q 4 (hzT 5))))))) ⟨[(2,.ptr 1 0)],[bCu ap aq ar,bBd ao ai aj ak,.arr 9 1 0 (gT [[97],[98]]),bTy ai aj ak,.frz 9 1 0 (gT [[115,104,111,119],[115,104,111,119],[101,113],[111,114,100],[97,100,100],[115,101,110,100],[122,122]])],Tryz.f64.ntmps⟩ (by kernel_rfl) ?_ ?_
 ·refine goT ?_;refine uD (kT (T:=34) (us:=gT [[115,104,111,119],[115,104,111,119],[101,113],[111,114,100],[97,100,100],[115,101,110,100],[122,122]]) gZ) ?_ ?_
  ·refine uD (qC 4 rfl rfl (qU 0 (kZ (gK.mk ae ag ah) [[115,104,111,119],[115,104,111,119],[101,113],[111,114,100],[97,100,100],[115,101,110,100],[122,122]] au) gZ)) ?_ ?_
   ·refine gQ (kF gZ) ?_;refine goT ?_;refine jL ?_;exact pQ 1 [0,1,2,3,4]
   refine gQ (kF gZ) ?_;refine gQ (qC 4 rfl rfl (qU 0 (kZ (gK.mk ae ag ah) [[115,104,111,119],[115,104,111,119],[101,113],[111,114,100],[97,100,100],[115,101,110,100],[122,122]] au) gZ)) ?_;refine goT ?_;refine jL ?_;exact pQ 1 [0,1,2,3,4]
  refine gQ (kF gZ) ?_;refine gQ (kT (T:=34) (us:=gT [[115,104,111,119],[115,104,111,119],[101,113],[111,114,100],[97,100,100],[115,101,110,100],[122,122]]) gZ) ?_;refine gQ (qC 4 rfl rfl (qU 0 (kZ (gK.mk ae ag ah) [[115,104,111,119],[115,104,111,119],[101,113],[111,114,100],[97,100,100],[115,101,110,100],[122,122]] au) gZ)) ?_;refine goT ?_;refine jL ?_;exact pQ 1 [0,1,2,3,4]
 refine goL ?_;refine jF ?_;obtain rfl:=Option.some.inj h;exact gAg [.d (.st [.s ao,.st [.i .i64 ai,.s aj,.sl 3 (gN ak)]])] _ ⟨rfl,rfl⟩
def zX(f:gM→(List gX)→gP→Int→Option (gH × Int))(a0:gM)(a1:List gX)(a3:Int)(x1:gD × Int)(x5:List gU × Bool):List gP→(List gH)→Option (gH × Int)
 | [],y=>(some ((gH.mk 1 0 x1.1 y),0))
 | q::xs,y=>gd (bok x5.1∧tok q.type_) (lt_ (apT x5.1 q.type_) fun ab=>
bnd (f a0 a1 (gP.mk q.trait ab) (IntKind.i64.wrap (a3 - 1))) fun h=>
(cnd (h.2 != 0) (
(some ((gH.mk 0 0 (gD.mk 0 0) []),h.2))) (
gd (y.length+[h.1].length≤4294967296) (
zX f a0 a1 a3 x1 x5 xs (y++[h.1])))))
def gKs(h:gM→(List gX)→gP→Int→Option (gH × Int))(f:gM→(List gX)→gP→Int→Option (gH × Int))(y:gM)(a1:List gX)(a2:gP)(a3:Int):Option (gH × Int):=
bnd (gAr y a2) fun q=>
(cnd (q.2 != 0) (
(some ((gH.mk 0 0 (gD.mk 0 0) []),q.2))) (
bnd (at? y.packages q.1.package) fun x3=>
bnd (at? x3.instances q.1.at_) fun x4=>
bnd (gJe x4.head a2.type_) fun x5=>
zX f y a1 a3 q x5 x4.where_ []))
def gQg(f:gM→(List gX)→gP→Int→Option (gH × Int)):Prop:=∀(h:gM)(q:List gX)(y:gP)(x3:Int){r:gH × Int},f h q y x3=some r→jI Tryz.prog 79 [.d (mD h),.L 6 (jU q),.d (yF y),.I x3] [mZ r.1,.i .i64 r.2]
def gL2(f:gM→(List gX)→gP→Int→Option (gH × Int)):Prop:=∀(h:gM)(q:List gX)(y:gP)(x3:Int){r:gH × Int},f h q y x3=some r→jI Tryz.prog 45 [.d (mD h),.L 6 (jU q),.d (yF y),.I x3] [mZ r.1,.i .i64 r.2]
theorem hB7{q}{f}(ao:gQg q)(y:gL2 f)(a0:gM)(a1:List gX)(a2:gP)(a3:Int){r:gH × Int}(h:gKs q f a0 a1 a2 a3=some r):jI Tryz.prog 79 [.d (mD a0),.L 6 (jU a1),.d (yF a2),.I a3] [mZ r.1,.i .i64 r.2]:=by
 obtain⟨a6⟩:=a0;obtain⟨be,⟨aq,ar,au⟩⟩:=a2;unfold gKs at h;refine SpI Tryz.func79 fun A _=>?_;refine goL ?_;obtain⟨⟨⟨ac,ad⟩,bf⟩,bt,h⟩:=gJ h;refine jP (gI (gOf _ _ bt)) ?_;refine mR (fun c2=>?_) (fun c2=>?_)
 ·replace h:=kU c2 h;refine goL ?_;refine vP (jN TBd.h TZ.h rfl (by repeat constructor)) ?_;exact goR h
 ·replace h:=kV c2 h;refine noS ?_;refine jS (P:=Tryz.prog) Mix.h [(0,true),(1,true),(2,true),(3,true),(4,true),(5,true),(6,true),(7,true),(8,true),(9,true),(10,true),(11,false),(12,false)] (by kernel_rfl) ?_;refine goY ?_;obtain⟨x3,a8,h⟩:=gJ h;obtain⟨bg,a8⟩:=gBm a8;obtain⟨b5,b6,b7,b8,b9,ca⟩:=x3;refine jW rfl (uL bg (gAc a8)) ?_;refine goY ?_;obtain⟨x4,a9,h⟩:=gJ h;obtain⟨bh,a9⟩:=gBm a9;obtain⟨bi,bj,⟨av,aw,ax⟩,aj,bk,bl,⟨ay,a4,a5⟩,bm⟩:=x4;refine jW rfl (uL bh (gHj a9)) ?_;refine goY ?_;refine mJ ?_;refine goL ?_;obtain⟨⟨ak,bn⟩,bv,h⟩:=gJ h;refine jP (gI (gV4 _ _ bv)) ?_;refine yT (jN TBd.h TZ.h rfl (by repeat constructor)) ?_;refine noB ?_;refine qZ 51 5 5 4 rfl rfl (by repeat constructor) (by repeat constructor) (by repeat constructor) (by repeat constructor) ?_;show V _ _ _ _ _;refine yC 4 5 (fun z9=>?_);refine mG (fun(y8:Nat)(y6:List gH)(v7:Nat)=>⟨[(1,.L 6 (jU a1)),(3,.I a3),(4,.ptr 0 0),(8,.ptr 2 0),(12,.ptr 4 0),(13,.L 4 (jY ak)),(15,.ptr 5 0),(16,.N y8)],[bPr a6,bBd be aq ar au,.box [.I 0,.I 0,.I 0,.I 0,.nilsl],.box [.I ac,.I ad],bIn bi bj av aw ax aj bk bl ay a4 a5 bm,.box [.I 1,.I 0,.I ac,.I ad,.sl 6 v7],.arr 51 5 v7 (jE y6)],Tryz.f79.ntmps⟩) (fun y8 y6 v7=>zX f (gM.mk a6) a1 a3 ((gD.mk ac ad),bf) (ak,bn) (aj.drop y8) y6=some r) (fun y8 y6 v7=>aj.length - y8) 0 [] 0 eJ h ?_;rintro y8 y6 v7 h;refine goL ?_;refine mR (fun ba=>?_) (fun ba=>?_)
  ·have ai:=vR ba;obtain⟨bw,a7,bb⟩:=drop_at ai;rw [bb,zX.eq_2] at h;obtain⟨bx,⟨al,am,an⟩⟩:=bw;refine noS ?_;refine kI (jA ?_);refine jS (P:=Tryz.prog) Mix.h [(0,true),(1,true),(2,true),(3,true),(4,true),(5,true),(6,true),(7,true),(8,true),(9,true),(10,true),(11,true),(12,true),(13,true),(14,true),(15,true),(16,true),(17,true),(18,true),(19,true),(20,true),(21,true),(22,true),(23,false),(24,false),(25,true)] (by kernel_rfl) ?_;refine goY ?_;refine jW rfl (jR y8 (gHi a7)) ?_;refine goY ?_;refine jW rfl (jR y8 (gHi a7)) ?_;refine goY ?_;obtain⟨bz,h⟩:=pU h;obtain⟨⟨b0,b1,b2⟩,bo,h⟩:=uK h;have sx13:=(gZ4 ak (gB.mk al am an) bz).p;rw [bo] at sx13;refine jW rfl (gI (sx13)) ?_;refine goY ?_;refine jW rfl (pV) ?_;obtain⟨⟨⟨ae,ag,⟨aa,ab⟩,ah⟩,b3⟩,bp,h⟩:=gJ h;refine jW rfl (gI (y _ _ _ _ bp)) ?_;refine goY ?_;refine mJ ?_;refine goC h ?_ ?_<;>intro cd h
   ·refine goL ?_;refine vP (jN TBd.h TZ.h rfl (by repeat constructor)) ?_;exact goR h
   ·refine goS ?_;refine uO (u:=(.st [.i .i64 ae,.i .i64 ag,.st [.i .i64 aa,.i .i64 ab],.sl 5 (jE ah)])) ?_;obtain⟨b4,h⟩:=pU h;refine gAd b4 ?_;refine goL ?_;refine jP (kD y8 (by omega)) ?_;exact⟨(y8+1),(y6++[(gH.mk ae ag (gD.mk aa ab) ah)]),(v7+1),h,by omega,eJ⟩
  ·have ai:=vS ba;rw [jK ai,zX.eq_1] at h;refine goX ?_;refine gV 6 rfl rfl ?_;refine jF ?_;cases h;exact uM
def gE7(f:gM→(List gX)→gP→Int→Option (gH × Int))(h:gM→(List gX)→gP→Int→Option (gH × Int))(q:gM)(a1:List gX)(a2:gP)(a3:Int):Option (gH × Int):=
(cnd (decide ((mQ a1 a2)≥0)) (
bnd (at? a1 (mQ a1 a2)) fun x2=>
bnd (wI (gH.mk 2 x2.from_ (gD.mk 0 0) []) x2.steps) fun x3=>
(some (x3,0))) (
(cnd (decide (a3≤0)) (
(some ((gH.mk 0 0 (gD.mk 0 0) []),3))) (
lt_ (uJ q a2.trait) fun x5=>
(cnd x5.1.auto (
bnd (gKq 5000 q a1 a2 []) fun x7=>
(cnd (x7 != 0) (
(some ((gH.mk 0 0 (gD.mk 0 0) []),x7))) (
(some ((gH.mk 5 0 (gD.mk 0 0) []),0))))) (
lt_ ((cnd (a2.type_.kind==1) (true) ((a2.type_.kind==3)))) fun b9=>
(cnd b9 (
(some ((gH.mk 0 0 (gD.mk 0 0) []),1))) (
(cnd (a2.type_.kind==4) (
bnd (qW q a2.type_.name a2.trait) fun y=>
(cnd y.2 (
bnd (wI (gH.mk 4 0 (gD.mk 0 0) []) y.1) fun ad=>
(some (ad,0))) (
bnd (f q a1 a2 a3) fun aa=>
(some (aa.1,aa.2))))) (
bnd (f q a1 a2 a3) fun ab=>
(some (ab.1,ab.2))))))))))))
theorem hAa{y}{f}(q:gQg y)(ae:gL2 f)(a0:gM)(a1:List gX)(a2:gP)(a3:Int){r:gH × Int}(h:gE7 y f a0 a1 a2 a3=some r):jI Tryz.prog 45 [.d (mD a0),.L 6 (jU a1),.d (yF a2),.I a3] [mZ r.1,.i .i64 r.2]:=by
 obtain⟨ag⟩:=a0;obtain⟨ad,⟨aa,ab,ac⟩⟩:=a2;unfold gE7 at h;refine SpI Tryz.func45 fun A _=>?_;refine goL ?_;refine jP (gI (gFp a1 (gP.mk ad (gB.mk aa ab ac)))) ?_;refine mR (fun c1=>?_) (fun c1=>?_)
 ·replace h:=kU c1 h;refine jS (P:=Tryz.prog) Mix.h [(0,true),(1,true),(2,true),(3,true),(4,true),(5,true),(6,true),(7,true),(8,true),(9,true),(10,true),(11,true),(12,false),(13,true)] (by kernel_rfl) ?_;refine goY ?_;obtain⟨x2,ah,h⟩:=gJ h;obtain⟨an,ah⟩:=gBm ah;obtain⟨⟨bj,⟨ax,ay,a4⟩⟩,a5,a6⟩:=x2;refine jW rfl (uL an (gHl ah)) ?_;refine goY ?_;refine jW rfl (uL an (gHl ah)) ?_;refine goY ?_;obtain⟨⟨b3,b4,⟨bk,bl⟩,b5⟩,bp,h⟩:=gJ h;refine jW rfl (gI ((gH1 (gH.mk 2 a5 (gD.mk 0 0) []) a6 bp).p)) ?_;refine goY ?_;refine mJ ?_;exact goR h
 ·replace h:=kV c1 h;refine goS ?_;refine mR (fun c4=>?_) (fun c4=>?_)
  ·replace h:=kU c4 h;refine goL ?_;refine vP (jN TBd.h TZ.h rfl (by repeat constructor)) ?_;exact goR h
  ·replace h:=kV c4 h;refine goS ?_;obtain⟨⟨⟨ai,aj,ak,al,am⟩,b6,b7⟩,br,h⟩:=uK h;have sx5:=gIr (gM.mk ag) ad;rw [br] at sx5;refine jP (gI (sx5)) ?_;refine mR (fun c6=>?_) (fun c6=>?_)
   ·replace h:=kU c6 h;refine goL ?_;refine gAu ?_;obtain⟨x7,bu,h⟩:=gJ h;refine yT (gUa (hB5 5000 (gM.mk ag) a1 (gP.mk ad (gB.mk aa ab ac)) [] bu)) ?_;refine mR (fun c8=>?_) (fun c8=>?_)
    ·replace h:=kU c8 h;refine goL ?_;refine vP (jN TBd.h TZ.h rfl (by repeat constructor)) ?_;exact goR h
    ·replace h:=kV c8 h;refine goS ?_;refine vP (jN TBd.h TZ.h rfl (by repeat constructor)) ?_;exact goR h
   ·replace h:=kV c6 h;refine goS ?_;obtain⟨b9,hb9,h⟩:=uK h;refine kH ⟨[(1,.L 6 (jU a1)),(3,.I a3),(4,.ptr 0 0),(6,.ptr 1 0),(8,.ptr 2 0),(66,.B b9)],[bPr ag,bBd ad aa ab ac,.box [.I 0,.I 0,.I 0,.I 0,.nilsl],bTr ai aj ak al am],Tryz.f45.ntmps⟩ ?_ ?_
    ·exact gqZ 61 hb9
    refine goC h ?_ ?_<;>intro cb h
    ·refine goL ?_;refine vP (jN TBd.h TZ.h rfl (by repeat constructor)) ?_;exact goR h
    ·refine goS ?_;refine mR (fun ao=>?_) (fun ao=>?_)
     ·replace h:=kU ao h;refine goL ?_;obtain⟨⟨ap,bw⟩,a7,h⟩:=gJ h;refine jP (gI (gI4 _ _ _ a7)) ?_;refine mR (fun aq=>?_) (fun aq=>?_)
      ·replace h:=kU aq h;refine goL ?_;refine yT (jN TBd.h TZ.h rfl (by repeat constructor)) ?_;obtain⟨⟨bx,bz,⟨a8,a9⟩,b0⟩,ba,h⟩:=gJ h;refine uN (gI ((gH1 (gH.mk 4 0 (gD.mk 0 0) []) ap ba).p)) ?_;exact goR h
      ·replace h:=kV aq h;refine goS ?_;obtain⟨⟨⟨bb,bc,⟨ar,au⟩,bd⟩,b1⟩,be,h⟩:=gJ h;refine uN (gI (q _ _ _ _ be)) ?_;exact goR h
     ·replace h:=kV ao h;refine goS ?_;obtain⟨⟨⟨bf,bg,⟨av,aw⟩,bh⟩,b2⟩,bi,h⟩:=gJ h;refine uN (gI (q _ _ _ _ bi)) ?_;exact goR h
mutual
def gG5:Nat→gM→(List gX)→gP→Int→Option (gH × Int)
 | 0,_,_,_,_=>none
 | n+1,f,h,q,y=>gKs (gG5 n) (vK n) f h q y
def vK:Nat→gM→(List gX)→gP→Int→Option (gH × Int)
 | 0,_,_,_,_=>none
 | n+1,f,h,q,y=>gE7 (gG5 n) (vK n) f h q y
end
theorem hAb:∀(n:Nat),gQg (gG5 n)∧gL2 (vK n):=by
 intro n
 induction n with
 | zero=>exact⟨(by intro f q y x3 r h;cases h),(by intro f q y x3 r h;cases h)⟩
 | succ n ih=>
   obtain⟨ih0,ih1⟩:=ih;refine⟨(fun f q y x3 r h=>hB7 ih0 ih1 f q y x3 h),(fun f q y x3 r h=>hAa ih0 ih1 f q y x3 h)⟩
theorem hAc:∀(n:Nat),gL2 (vK n):=fun n=>(hAb n).2
def vC(a0:gM)(y3:Nat)(x6:gP)(h:(List gX)→Option (List gX)):LS→(List gX)→Option (List gX)
 | [],f=>(h f)
 | q::xs,f=>bnd (qW a0 x6.trait q) fun y=>
gd (tok x6.type_) (lt_ (idT x6.type_) fun aa=>
gd (f.length+[(gX.mk (gP.mk q aa) (y3:Int) y.1)].length≤4294967296) (
vC a0 y3 x6 h xs (f++[(gX.mk (gP.mk q aa) (y3:Int) y.1)])))
def vD(y:gM):List gP→Nat→(List gX)→Option (List gX)
 | [],h,q=>(some q)
 | f::xs,h,q=>gd (tok f.type_) (lt_ (idT f.type_) fun x8=>
gd (q.length+[(gX.mk (gP.mk f.trait x8) (h:Int) [])].length≤4294967296) (
bnd (vB y f.trait) fun aa=>
vC y h f (fun ab=>vD y xs (h+1) ab) aa (q++[(gX.mk (gP.mk f.trait x8) (h:Int) [])])))
def gDh(f:gM)(a1:List gP):Option (List gX):=
vD f a1 0 []
theorem gSh(a0:gM)(a1:List gP){r:List gX}(h:gDh a0 a1=some r):jI Tryz.prog 46 [.d (mD a0),.L 4 (kC a1)] [.sl 6 (jU r)]:=by
 obtain⟨ae⟩:=a0;unfold gDh at h;refine SpI Tryz.func46 fun A _=>?_;refine goL ?_;refine gAu ?_;refine goL ?_;refine noB ?_;refine gCw 1 (fun z4=>?_);refine mG (fun(f:Nat)(y1:List gX)(v2:Nat)=>⟨[(1,.L 4 (kC a1)),(2,.ptr 0 0),(5,.sl 1 v2),(6,.N f)],[bPr ae,.arr 139 6 v2 (jU y1)],Tryz.f46.ntmps⟩) (fun f y1 v2=>vD (gM.mk ae) (a1.drop f) f y1=some r) (fun f y1 v2=>a1.length - f) 0 [] 0 eJ h ?_;rintro f y1 v2 h;refine goL ?_;refine mR (fun c5=>?_) (fun c5=>?_)
 ·have ag:=vR c5;obtain⟨x6,aj,a3⟩:=drop_at ag;rw [a3,vD.eq_2] at h;obtain⟨ai,⟨y,aa,ab⟩⟩:=x6;refine noS ?_;refine kI (jA ?_);refine jS (P:=Tryz.prog) Mix.h [(0,true),(1,true),(2,true),(3,true),(4,true),(5,true),(6,true),(7,true),(8,true),(9,true),(10,true),(11,true),(12,true),(13,true),(14,true),(15,false),(16,false),(17,true)] (by kernel_rfl) ?_;refine goY ?_;refine jW rfl (jR f (gHi aj)) ?_;refine goY ?_;refine jW rfl (jR f (gHi aj)) ?_;refine goY ?_;obtain⟨g7,h⟩:=pU h;obtain⟨⟨ak,al,am⟩,ba,h⟩:=uK h;have sx8:=(gHu (gB.mk y aa ab) g7).p;rw [ba] at sx8;refine jW rfl (gI (sx8)) ?_;refine goY ?_;refine kT (T:=96) (us:=jU [(gX.mk (gP.mk ai (gB.mk ak al am)) (f:Int) [])]) ?_;obtain⟨g9,h⟩:=pU h;refine kN (T:=96) g9 ?_;refine goY ?_;refine mJ ?_;refine goL ?_;refine gDi (jR f (gHi aj)) ?_;refine goL ?_;obtain⟨au,a4,h⟩:=gJ h;refine gDi (gI (gOg _ _ a4)) ?_;refine goL ?_;refine noB ?_;refine gCw 7 (fun bh=>?_);refine mG (fun(q:Nat)(ac:List gX)(ah:Nat)=>⟨[(1,.L 4 (kC a1)),(2,.ptr 0 0),(5,.sl 1 ah),(6,.N f),(7,.L 1 (gT au)),(8,.N q)],[bPr ae,.arr 139 6 ah (jU ac),.arr 139 6 0 (jU [(gX.mk (gP.mk ai (gB.mk ak al am)) (f:Int) [])])],Tryz.f46.ntmps⟩) (fun q ac ah=>vC (gM.mk ae) f (gP.mk ai (gB.mk y aa ab)) (fun ac=>vD (gM.mk ae) (a1.drop (f+1)) (f+1) ac) (au.drop q) ac=some r) (fun q ac ah=>au.length - q) 0 (y1++[(gX.mk (gP.mk ai (gB.mk ak al am)) (f:Int) [])]) (v2+1) eJ h ?_;rintro q ac ah h;refine goL ?_;refine mR (fun av=>?_) (fun av=>?_)
  ·have ad:=vR av;obtain⟨a5,ar,aw⟩:=drop_at ad;rw [aw,vC.eq_2] at h;refine noS ?_;refine kI (jA ?_);refine goL ?_;refine gDi (jR f (gHi aj)) ?_;refine goL ?_;refine gDi (jR q (gO7 ar)) ?_;refine goL ?_;obtain⟨⟨an,bb⟩,a6,h⟩:=gJ h;refine gDi (gI (gI4 _ _ _ a6)) ?_;refine gIb ?_;refine yL (P:=Tryz.prog) Mix.h [(0,true),(1,true),(2,true),(3,true),(4,true),(5,true),(6,true),(7,true),(8,true),(9,true),(10,true),(11,true),(12,true),(13,true),(14,true),(15,false),(16,false),(17,true)] (by kernel_rfl) ?_;refine goY ?_;refine jW rfl (jR q (gO7 ar)) ?_;refine goY ?_;refine jW rfl (jR f (gHi aj)) ?_;refine goY ?_;obtain⟨bc,h⟩:=pU h;obtain⟨⟨ao,ap,aq⟩,a7,h⟩:=uK h;have sx19:=(gHu (gB.mk y aa ab) bc).p;rw [a7] at sx19;refine jW rfl (gI (sx19)) ?_;refine goY ?_;refine kT (T:=96) (us:=jU [(gX.mk (gP.mk a5 (gB.mk ao ap aq)) (f:Int) an)]) ?_;obtain⟨bd,h⟩:=pU h;refine kN (T:=96) bd ?_;refine goY ?_;refine mJ ?_;refine goL ?_;refine jP (kD q (by omega)) ?_;exact⟨(q+1),(ac++[(gX.mk (gP.mk a5 (gB.mk ao ap aq)) (f:Int) an)]),(ah+1),h,by omega,eJ⟩
  ·have ad:=vS av;rw [jK ad,vC.eq_1] at h;refine goX ?_;refine jP (kD f (by omega)) ?_;exact⟨(f+1),ac,ah,h,by omega,eJ⟩
 ·have ag:=vS c5;rw [jK ag,vD.eq_1] at h;refine goX ?_;refine gV 1 rfl rfl ?_;refine jF ?_;cases h;exact uM
end Go.Proofs.YtfpdlnkkcnmebaaGreat
