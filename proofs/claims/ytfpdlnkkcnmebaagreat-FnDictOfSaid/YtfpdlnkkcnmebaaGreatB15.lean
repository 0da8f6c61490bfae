import Derived.Test.YtfpdlnkkcnmebaaGreatB12
import Derived.Test.YtfpdlnkkcnmebaaGreatWd
set_option maxHeartbeats 4000000
set_option linter.unusedVariables false
set_option linter.unusedSimpArgs false
set_option linter.unusedSectionVars false
namespace Go.Proofs.YtfpdlnkkcnmebaaGreat
open Go Go.Eng
attribute [local irreducible] V VO VQ VY Quiet QR jI mK Rng qE qA pX
def gKr(c:gK):Option (jD × gK):=
bnd (pK c [[115,104,111,119],[101,113],[97,100,100]]) fun x1=>
bnd (kW x1.2 9) fun x2=>
lt_ (gFr x2.1) fun x3=>
bnd (kW x2.2 4) fun x4=>
(cnd (x4.1==0) (
bnd (gFo ) fun x6=>
bnd (uS x4.2 3) fun x7=>
bnd ((cnd x7.1 (
bnd (gN9 5000 x7.2 [] 1) fun ao=>
(some (ao.2.b,ao.2.i,ao.2.h,true,ao.1.kind,ao.1.name,ao.1.args))) (
(some (x7.2.b,x7.2.i,x7.2.h,false,0,[],[]))))) fun b8=>
bnd (uS (gK.mk b8.1 b8.2.1 b8.2.2.1) 4) fun ai=>
bnd (kW ai.2 12) fun ad=>
(cnd (ad.1==0) (
bnd (zT ad.2 2) fun bf=>
(some ((jD.mk x1.1 [] bf.1 [] ai.1 b8.2.2.2.1 (gB.mk b8.2.2.2.2.1 b8.2.2.2.2.2.1 b8.2.2.2.2.2.2) [(jG.mk [109] [[120]] x3)]),bf.2))) (
(cnd (ad.1==1) (
bnd (pK ad.2 [[97],[99]]) fun a5=>
gd ([a5.1].length≤4294967296) (
(some ((jD.mk x1.1 [a5.1] x6 [] ai.1 b8.2.2.2.1 (gB.mk b8.2.2.2.2.1 b8.2.2.2.2.2.1 b8.2.2.2.2.2.2) [(jG.mk [109] [[120]] x3)]),a5.2)))) (
(cnd (ad.1==2) (
bnd (zT ad.2 1) fun a6=>
gd (([]:List gP).length+[(gP.mk [101,113] a6.1)].length≤4294967296) (
(some ((jD.mk x1.1 [] x6 ([]++[(gP.mk [101,113] a6.1)]) ai.1 b8.2.2.2.1 (gB.mk b8.2.2.2.2.1 b8.2.2.2.2.2.1 b8.2.2.2.2.2.2) [(jG.mk [109] [[120]] x3)]),a6.2)))) (
(cnd (ad.1==3) (
bnd (gB7 5000 ad.2 [[120],[121]] 2) fun bg=>
bnd (at? [(jG.mk [109] [[120]] x3)] 0) fun bh=>
(some ((jD.mk x1.1 [] x6 [] ai.1 b8.2.2.2.1 (gB.mk b8.2.2.2.2.1 b8.2.2.2.2.2.1 b8.2.2.2.2.2.2) ([(jG.mk [109] [[120]] x3)].set 0 (jG.mk bh.name bh.vars bg.1))),bg.2))) (
(cnd (ad.1==4) (
bnd (gFo ) fun bv=>
(some ((jD.mk x1.1 [] x6 [] ai.1 b8.2.2.2.1 bv [(jG.mk [109] [[120]] x3)]),ad.2))) (
(cnd (ad.1==5) (
bnd (at? [(jG.mk [109] [[120]] x3)] 0) fun bi=>
(some ((jD.mk x1.1 [] x6 [] ai.1 b8.2.2.2.1 (gB.mk b8.2.2.2.2.1 b8.2.2.2.2.2.1 b8.2.2.2.2.2.2) ([(jG.mk [109] [[120]] x3)].set 0 (jG.mk bi.name [] bi.body))),ad.2))) (
(some ((jD.mk x1.1 [] x6 [] ai.1 b8.2.2.2.1 (gB.mk b8.2.2.2.2.1 b8.2.2.2.2.2.1 b8.2.2.2.2.2.2) [(jG.mk [109] [[120]] x3)]),ad.2))))))))))))))) (
(cnd (x4.1==1) (
lt_ (vZ [97]) fun bw=>
bnd (gBa [108,105,115,116] [bw]) fun ap=>
lt_ (vZ [97]) fun aj=>
bnd (uS x4.2 3) fun ax=>
bnd ((cnd ax.1 (
bnd (gLu 5000 ax.2 [[97]] 1) fun aq=>
(some (aq.2.b,aq.2.i,aq.2.h,true,aq.1.kind,aq.1.name,aq.1.args))) (
(some (ax.2.b,ax.2.i,ax.2.h,false,0,[],[]))))) fun f=>
bnd (uS (gK.mk f.1 f.2.1 f.2.2.1) 4) fun ak=>
bnd (kW ak.2 12) fun ae=>
(cnd (ae.1==0) (
bnd (zT ae.2 2) fun bj=>
(some ((jD.mk x1.1 [[97]] bj.1 [(gP.mk x1.1 aj)] ak.1 f.2.2.2.1 (gB.mk f.2.2.2.2.1 f.2.2.2.2.2.1 f.2.2.2.2.2.2) [(jG.mk [109] [[120]] x3)]),bj.2))) (
(cnd (ae.1==1) (
bnd (pK ae.2 [[97],[99]]) fun a7=>
gd (([[97]]:LS).length+[a7.1].length≤4294967296) (
(some ((jD.mk x1.1 ([[97]]++[a7.1]) ap [(gP.mk x1.1 aj)] ak.1 f.2.2.2.1 (gB.mk f.2.2.2.2.1 f.2.2.2.2.2.1 f.2.2.2.2.2.2) [(jG.mk [109] [[120]] x3)]),a7.2)))) (
(cnd (ae.1==2) (
bnd (zT ae.2 1) fun a8=>
gd ([(gP.mk x1.1 aj)].length+[(gP.mk [101,113] a8.1)].length≤4294967296) (
(some ((jD.mk x1.1 [[97]] ap ([(gP.mk x1.1 aj)]++[(gP.mk [101,113] a8.1)]) ak.1 f.2.2.2.1 (gB.mk f.2.2.2.2.1 f.2.2.2.2.2.1 f.2.2.2.2.2.2) [(jG.mk [109] [[120]] x3)]),a8.2)))) (
(cnd (ae.1==3) (
bnd (gB7 5000 ae.2 [[120],[121]] 2) fun bk=>
bnd (at? [(jG.mk [109] [[120]] x3)] 0) fun bl=>
(some ((jD.mk x1.1 [[97]] ap [(gP.mk x1.1 aj)] ak.1 f.2.2.2.1 (gB.mk f.2.2.2.2.1 f.2.2.2.2.2.1 f.2.2.2.2.2.2) ([(jG.mk [109] [[120]] x3)].set 0 (jG.mk bl.name bl.vars bk.1))),bk.2))) (
(cnd (ae.1==4) (
bnd (gFo ) fun bx=>
(some ((jD.mk x1.1 [[97]] ap [(gP.mk x1.1 aj)] ak.1 f.2.2.2.1 bx [(jG.mk [109] [[120]] x3)]),ae.2))) (
(cnd (ae.1==5) (
bnd (at? [(jG.mk [109] [[120]] x3)] 0) fun bm=>
(some ((jD.mk x1.1 [[97]] ap [(gP.mk x1.1 aj)] ak.1 f.2.2.2.1 (gB.mk f.2.2.2.2.1 f.2.2.2.2.2.1 f.2.2.2.2.2.2) ([(jG.mk [109] [[120]] x3)].set 0 (jG.mk bm.name [] bm.body))),ae.2))) (
(some ((jD.mk x1.1 [[97]] ap [(gP.mk x1.1 aj)] ak.1 f.2.2.2.1 (gB.mk f.2.2.2.2.1 f.2.2.2.2.2.1 f.2.2.2.2.2.2) [(jG.mk [109] [[120]] x3)]),ae.2))))))))))))))) (
(cnd (x4.1==2) (
lt_ (vZ [97]) fun bz=>
lt_ (vZ [98]) fun b0=>
bnd (gBa [112,97,105,114] [bz,b0]) fun ar=>
bnd (uS x4.2 3) fun ay=>
bnd ((cnd ay.1 (
bnd (gLu 5000 ay.2 [[97],[98]] 1) fun au=>
(some (au.2.b,au.2.i,au.2.h,true,au.1.kind,au.1.name,au.1.args))) (
(some (ay.2.b,ay.2.i,ay.2.h,false,0,[],[]))))) fun q=>
bnd (uS (gK.mk q.1 q.2.1 q.2.2.1) 4) fun al=>
bnd (kW al.2 12) fun ag=>
(cnd (ag.1==0) (
bnd (zT ag.2 2) fun bn=>
(some ((jD.mk x1.1 [[97],[98]] bn.1 [] al.1 q.2.2.2.1 (gB.mk q.2.2.2.2.1 q.2.2.2.2.2.1 q.2.2.2.2.2.2) [(jG.mk [109] [[120]] x3)]),bn.2))) (
(cnd (ag.1==1) (
bnd (pK ag.2 [[97],[99]]) fun a9=>
gd (([[97],[98]]:LS).length+[a9.1].length≤4294967296) (
(some ((jD.mk x1.1 ([[97],[98]]++[a9.1]) ar [] al.1 q.2.2.2.1 (gB.mk q.2.2.2.2.1 q.2.2.2.2.2.1 q.2.2.2.2.2.2) [(jG.mk [109] [[120]] x3)]),a9.2)))) (
(cnd (ag.1==2) (
bnd (zT ag.2 1) fun ba=>
gd (([]:List gP).length+[(gP.mk [101,113] ba.1)].length≤4294967296) (
(some ((jD.mk x1.1 [[97],[98]] ar ([]++[(gP.mk [101,113] ba.1)]) al.1 q.2.2.2.1 (gB.mk q.2.2.2.2.1 q.2.2.2.2.2.1 q.2.2.2.2.2.2) [(jG.mk [109] [[120]] x3)]),ba.2)))) (
(cnd (ag.1==3) (
bnd (gB7 5000 ag.2 [[120],[121]] 2) fun bo=>
bnd (at? [(jG.mk [109] [[120]] x3)] 0) fun bp=>
(some ((jD.mk x1.1 [[97],[98]] ar [] al.1 q.2.2.2.1 (gB.mk q.2.2.2.2.1 q.2.2.2.2.2.1 q.2.2.2.2.2.2) ([(jG.mk [109] [[120]] x3)].set 0 (jG.mk bp.name bp.vars bo.1))),bo.2))) (
(cnd (ag.1==4) (
bnd (gFo ) fun b1=>
(some ((jD.mk x1.1 [[97],[98]] ar [] al.1 q.2.2.2.1 b1 [(jG.mk [109] [[120]] x3)]),ag.2))) (
(cnd (ag.1==5) (
bnd (at? [(jG.mk [109] [[120]] x3)] 0) fun bq=>
(some ((jD.mk x1.1 [[97],[98]] ar [] al.1 q.2.2.2.1 (gB.mk q.2.2.2.2.1 q.2.2.2.2.2.1 q.2.2.2.2.2.2) ([(jG.mk [109] [[120]] x3)].set 0 (jG.mk bq.name [] bq.body))),ag.2))) (
(some ((jD.mk x1.1 [[97],[98]] ar [] al.1 q.2.2.2.1 (gB.mk q.2.2.2.2.1 q.2.2.2.2.2.1 q.2.2.2.2.2.2) [(jG.mk [109] [[120]] x3)]),ag.2))))))))))))))) (
lt_ (vZ [97]) fun av=>
lt_ (vZ [97]) fun am=>
bnd (uS x4.2 3) fun a0=>
bnd ((cnd a0.1 (
bnd (gLu 5000 a0.2 [[97]] 1) fun aw=>
(some (aw.2.b,aw.2.i,aw.2.h,true,aw.1.kind,aw.1.name,aw.1.args))) (
(some (a0.2.b,a0.2.i,a0.2.h,false,0,[],[]))))) fun y=>
bnd (uS (gK.mk y.1 y.2.1 y.2.2.1) 4) fun an=>
bnd (kW an.2 12) fun ah=>
(cnd (ah.1==0) (
bnd (zT ah.2 2) fun br=>
(some ((jD.mk x1.1 [[97]] br.1 [(gP.mk [111,114,100] am)] an.1 y.2.2.2.1 (gB.mk y.2.2.2.2.1 y.2.2.2.2.2.1 y.2.2.2.2.2.2) [(jG.mk [109] [[120]] x3)]),br.2))) (
(cnd (ah.1==1) (
bnd (pK ah.2 [[97],[99]]) fun bb=>
gd (([[97]]:LS).length+[bb.1].length≤4294967296) (
(some ((jD.mk x1.1 ([[97]]++[bb.1]) av [(gP.mk [111,114,100] am)] an.1 y.2.2.2.1 (gB.mk y.2.2.2.2.1 y.2.2.2.2.2.1 y.2.2.2.2.2.2) [(jG.mk [109] [[120]] x3)]),bb.2)))) (
(cnd (ah.1==2) (
bnd (zT ah.2 1) fun bc=>
gd ([(gP.mk [111,114,100] am)].length+[(gP.mk [101,113] bc.1)].length≤4294967296) (
(some ((jD.mk x1.1 [[97]] av ([(gP.mk [111,114,100] am)]++[(gP.mk [101,113] bc.1)]) an.1 y.2.2.2.1 (gB.mk y.2.2.2.2.1 y.2.2.2.2.2.1 y.2.2.2.2.2.2) [(jG.mk [109] [[120]] x3)]),bc.2)))) (
(cnd (ah.1==3) (
bnd (gB7 5000 ah.2 [[120],[121]] 2) fun bt=>
bnd (at? [(jG.mk [109] [[120]] x3)] 0) fun bu=>
(some ((jD.mk x1.1 [[97]] av [(gP.mk [111,114,100] am)] an.1 y.2.2.2.1 (gB.mk y.2.2.2.2.1 y.2.2.2.2.2.1 y.2.2.2.2.2.2) ([(jG.mk [109] [[120]] x3)].set 0 (jG.mk bu.name bu.vars bt.1))),bt.2))) (
(cnd (ah.1==4) (
bnd (gFo ) fun b2=>
(some ((jD.mk x1.1 [[97]] av [(gP.mk [111,114,100] am)] an.1 y.2.2.2.1 b2 [(jG.mk [109] [[120]] x3)]),ah.2))) (
(cnd (ah.1==5) (
bnd (at? [(jG.mk [109] [[120]] x3)] 0) fun a3=>
(some ((jD.mk x1.1 [[97]] av [(gP.mk [111,114,100] am)] an.1 y.2.2.2.1 (gB.mk y.2.2.2.2.1 y.2.2.2.2.2.1 y.2.2.2.2.2.2) ([(jG.mk [109] [[120]] x3)].set 0 (jG.mk a3.name [] a3.body))),ah.2))) (
(some ((jD.mk x1.1 [[97]] av [(gP.mk [111,114,100] am)] an.1 y.2.2.2.1 (gB.mk y.2.2.2.2.1 y.2.2.2.2.2.1 y.2.2.2.2.2.2) [(jG.mk [109] [[120]] x3)]),ah.2))))))))))))))))))))
theorem gU3(c:gK){r:jD × gK}(h:gKr c=some r):Go.Eng.Spec Tryz.prog 102 [.ptr 0 0] [bCu c.b c.i c.h] (fun sv Lo=>sv=.d (gBq r.1)∧Lo=[bCu r.2.b r.2.i r.2.h]):=by
 obtain⟨ma,mb,mc⟩:=c;unfold gKr at h;refine kJ 1 Tryz.func102 rfl (by kernel_rfl) rfl rfl fun A _=>?_;refine goL ?_;refine yQ (us:=gT [[115,104,111,119],[101,113],[97,100,100]]) ?_;refine kS 2 rfl rfl ?_;obtain⟨⟨ab,⟨j3,j4,j5⟩⟩,me,h⟩:=gJ h;refine mI 0 (kZ (gK.mk ma mb mc) [[115,104,111,119],[101,113],[97,100,100]] me) ?_;refine uO (u:=(.s [120])) ?_;refine goL ?_;obtain⟨⟨k6,⟨j6,j7,j8⟩⟩,mf,h⟩:=gJ h;refine mI 0 (mH (gK.mk j3 j4 j5) 9 mf) ?_;obtain⟨⟨ac,ad,ae,ag,⟨f,y,aa⟩,ah,ai⟩,mg,h⟩:=uK h;have sx3:=gM9 k6;rw [mg] at sx3;refine uN (gI (sx3)) ?_;refine vP (jN TBd.h TZ.h rfl (by repeat constructor)) ?_;refine kS 3 rfl rfl ?_;refine uO (u:=(.st [.s [109],.sl 1 (gT [[120]]),.st [.i .i64 ac,.s ad,.s ae,.i .i64 ag,.st [.i .i64 f,.s y,.sl 3 (gN aa)],.sl 9 (kQ ah),.sl 11 (uZ ai)]])) ?_;refine yT (jN TBd.h TZ.h rfl (by repeat constructor)) ?_;obtain⟨⟨m7,⟨gb,gc,gd⟩⟩,mh,h⟩:=gJ h;refine mI 0 (mH (gK.mk j6 j7 j8) 4 mh) ?_;refine goL ?_;refine jA ?_;refine goC h ?_ ?_<;>intro c5 h
 ·refine goL ?_;obtain⟨⟨e6,e7,e8⟩,mi,h⟩:=gJ h;refine jP (gI (gH0  mi)) ?_;obtain⟨⟨m8,⟨j9,ka,kb⟩⟩,mj,h⟩:=gJ h;refine mI 0 (wB (gK.mk gb gc gd) 3 mj) ?_;refine goL ?_;refine gS8 3 5 10 rfl rfl (by repeat constructor) (by repeat constructor) ?_;obtain⟨⟨kg,kh,ki,ez,e9,fa,fb⟩,hb8,h⟩:=gJ h;refine wY ⟨[(0,.ptr 0 0),(2,.ptr 1 0),(3,.ptr 5 0)],[bCu kg kh ki,.box [.S [],.nilsl,.I 0,.S [],.nilsl,.nilsl,.B false,.B false,.I 0,.S [],.nilsl,.nilsl],.frz 9 1 0 (gT [[115,104,111,119],[101,113],[97,100,100]]),.frz 9 1 0 (gT [[120]]),.arr 103 11 0 (mF [(jG.mk [109] [[120]] (gY.mk ac ad ae ag (gB.mk f y aa) ah ai))]),.box [.S ab,.nilsl,.I e6,.S e7,.L 3 (gN e8),.nilsl,.B false,.B ez,.I e9,.S fa,.L 3 (gN fb),.sl 4 0]],Tryz.f102.ntmps⟩ ?_ ?_
  ·refine mR (fun c9=>?_) (fun c9=>?_)
   ·replace hb8:=kU c9 hb8;refine goL ?_;obtain⟨⟨⟨k7,k8,k9⟩,⟨la,lb,lc⟩⟩,ld,hb8⟩:=gJ hb8;refine mI 0 (hGd 5000 (gK.mk j9 ka kb) [] 1 ld) ?_;refine goL ?_;cases hb8;exact eJ
   ·replace hb8:=kV c9 hb8;refine vN ?_;cases hb8;exact eJ
  refine goL ?_;obtain⟨⟨c8,⟨hn,ho,hp⟩⟩,le,h⟩:=gJ h;refine mI 0 (wB (gK.mk kg kh ki) 4 le) ?_;refine goL ?_;obtain⟨⟨mm,⟨aj,ak,al⟩⟩,lf,h⟩:=gJ h;refine mI 0 (mH (gK.mk hn ho hp) 12 lf) ?_;refine goL ?_;refine jA ?_;refine goC h ?_ ?_<;>intro m9 h
  ·refine goL ?_;obtain⟨⟨⟨hq,hr,hs⟩,⟨ht,hu,hw⟩⟩,lg,h⟩:=gJ h;refine mI 0 (zU (gK.mk aj ak al) 2 lg) ?_;refine goL ?_;refine gV 4 rfl rfl ?_;refine jF ?_;obtain rfl:=Option.some.inj h;exact gB5 [.d (.st [.s ab,.sl 1 [],.st [.i .i64 hq,.s hr,.sl 3 (gN hs)],.sl 4 [],.b c8,.b ez,.st [.i .i64 e9,.s fa,.sl 3 (gN fb)],.sl 11 (mF [(jG.mk [109] [[120]] (gY.mk ac ad ae ag (gB.mk f y aa) ah ai))])])] [bCu ht hu hw] ⟨rfl,rfl⟩
  ·refine goC h ?_ ?_<;>intro na h
   ·obtain⟨⟨f6,⟨gj,gk,gl⟩⟩,hx,h⟩:=gJ h;obtain⟨kc,h⟩:=pU h;refine qY (P:=Tryz.prog) Mix.h (.q 0 (.q 2 (.h 1 (hcT 3 (hcT 4 (hcT 5 (hcT 6 (.q 7 (hzT 8)))))) (hcT 3 (.h 1 (hcT 4 (hcT 5 (hcT 6 (.q 7 (hzT 8))))) (hcT 4 (.h 1 (hcT 5 (hcT 6 (.q 7 (hzT 8)))) (hcT 5 (hcT 1 (hcT 6 (.q 7 (hzT 8)))))))))))) ⟨[(2,.ptr 1 0),(3,.ptr 5 0)],[bCu gj gk gl,.box [.S [],.nilsl,.I 0,.S [],.nilsl,.nilsl,.B false,.B false,.I 0,.S [],.nilsl,.nilsl],.frz 9 1 0 (gT [[115,104,111,119],[101,113],[97,100,100]]),.frz 9 1 0 (gT [[120]]),.arr 103 11 0 (mF [(jG.mk [109] [[120]] (gY.mk ac ad ae ag (gB.mk f y aa) ah ai))]),.box [.S ab,.sl 8 0,.I e6,.S e7,.L 3 (gN e8),.nilsl,.B c8,.B ez,.I e9,.S fa,.L 3 (gN fb),.sl 4 0],.frz 9 1 0 (gT [[97],[99]]),.dead 1,.own 9 1 0 (gT [f6])],Tryz.f102.ntmps⟩ (by kernel_rfl) ?_ ?_
    ·refine mU ?_;refine uD (kF gZ) ?_ ?_
     ·refine gQ (kT (T:=34) (us:=gT [[97],[99]]) gZ) ?_;refine gQ (qC 6 rfl rfl (qU 0 (kZ (gK.mk aj ak al) [[97],[99]] hx) gZ)) ?_;refine gQ (kT (T:=34) (us:=gT [f6]) gZ) ?_;refine gQ (hIp 7 rfl rfl (by first | exact gCz _ | exact gC0 _) (gZa (T:=34) kc gZ)) ?_;refine mU ?_;refine jL ?_;exact pQ 1 [0,1,2,3,4,5,6,7,8]
     refine gQ (kT (T:=34) (us:=gT [[97],[99]]) gZ) ?_;refine uD (kF gZ) ?_ ?_
     ·refine gQ (qC 6 rfl rfl (qU 0 (kZ (gK.mk aj ak al) [[97],[99]] hx) gZ)) ?_;refine gQ (kT (T:=34) (us:=gT [f6]) gZ) ?_;refine gQ (hIp 7 rfl rfl (by first | exact gCz _ | exact gC0 _) (gZa (T:=34) kc gZ)) ?_;refine mU ?_;refine jL ?_;exact pQ 1 [0,1,2,3,4,5,6,7,8]
     refine gQ (qC 6 rfl rfl (qU 0 (kZ (gK.mk aj ak al) [[97],[99]] hx) gZ)) ?_;refine uD (kF gZ) ?_ ?_
     ·refine gQ (kT (T:=34) (us:=gT [f6]) gZ) ?_;refine gQ (hIp 7 rfl rfl (by first | exact gCz _ | exact gC0 _) (gZa (T:=34) kc gZ)) ?_;refine mU ?_;refine jL ?_;exact pQ 1 [0,1,2,3,4,5,6,7,8]
     refine gQ (kT (T:=34) (us:=gT [f6]) gZ) ?_;refine gQ (kF gZ) ?_;refine gQ (hIp 7 rfl rfl (by first | exact gCz _ | exact gC0 _) (gZa (T:=34) kc gZ)) ?_;refine mU ?_;refine jL ?_;exact pQ 1 [0,1,2,3,4,5,6,7,8]
    refine goL ?_;refine mP 8 rfl rfl ?_;refine gV 4 rfl rfl ?_;refine jF ?_;obtain rfl:=Option.some.inj h;exact gB5 [.d (.st [.s ab,.sl 1 (gT [f6]),.st [.i .i64 e6,.s e7,.sl 3 (gN e8)],.sl 4 [],.b c8,.b ez,.st [.i .i64 e9,.s fa,.sl 3 (gN fb)],.sl 11 (mF [(jG.mk [109] [[120]] (gY.mk ac ad ae ag (gB.mk f y aa) ah ai))])])] [bCu gj gk gl] ⟨rfl,rfl⟩
   ·refine goC h ?_ ?_<;>intro nb h
    ·refine qZ 53 4 5 5 rfl rfl (by repeat constructor) (by repeat constructor) (by repeat constructor) (by repeat constructor) ?_;obtain⟨⟨⟨dm,dn,dp⟩,⟨gm,gn,go⟩⟩,kj,h⟩:=gJ h;obtain⟨kn,h⟩:=pU h;refine qY (P:=Tryz.prog) Mix.h (.q 0 (.q 2 (.h 1 (hcT 3 (.q 4 (hcT 5 (hcT 6 (.q 7 (hzT 8)))))) (hcT 3 (.q 4 (.h 1 (hcT 5 (hcT 6 (.q 7 (hzT 8)))) (hcT 5 (hcT 1 (hcT 6 (.q 7 (hzT 8))))))))))) ⟨[(2,.ptr 1 0),(3,.ptr 5 0)],[bCu gm gn go,.box [.S [],.nilsl,.I 0,.S [],.nilsl,.nilsl,.B false,.B false,.I 0,.S [],.nilsl,.nilsl],.frz 9 1 0 (gT [[115,104,111,119],[101,113],[97,100,100]]),.frz 9 1 0 (gT [[120]]),.arr 103 11 0 (mF [(jG.mk [109] [[120]] (gY.mk ac ad ae ag (gB.mk f y aa) ah ai))]),.box [.S ab,.nilsl,.I e6,.S e7,.L 3 (gN e8),.sl 6 (0+1),.B c8,.B ez,.I e9,.S fa,.L 3 (gN fb),.sl 4 0],.arr 53 4 (0+1) (kC ([]++[(gP.mk [101,113] (gB.mk dm dn dp))])),.arr 53 4 0 (kC [(gP.mk [101,113] (gB.mk dm dn dp))])],Tryz.f102.ntmps⟩ (by kernel_rfl) ?_ ?_
     ·refine mU ?_;refine uD (kF gZ) ?_ ?_
      ·refine gQ (qU 0 (zU (gK.mk aj ak al) 1 kj) gZ) ?_;refine mU ?_;refine gQ (kT (T:=38) (us:=kC [(gP.mk [101,113] (gB.mk dm dn dp))]) gZ) ?_;refine gQ (kN (T:=38) kn gZ) ?_;refine mU ?_;refine jL ?_;exact pQ 1 [0,1,2,3,4,5,6,7]
      refine gQ (qU 0 (zU (gK.mk aj ak al) 1 kj) gZ) ?_;refine mU ?_;refine uD (kF gZ) ?_ ?_
      ·refine gQ (kT (T:=38) (us:=kC [(gP.mk [101,113] (gB.mk dm dn dp))]) gZ) ?_;refine gQ (kN (T:=38) kn gZ) ?_;refine mU ?_;refine jL ?_;exact pQ 1 [0,1,2,3,4,5,6,7]
      refine gQ (kT (T:=38) (us:=kC [(gP.mk [101,113] (gB.mk dm dn dp))]) gZ) ?_;refine gQ (kF gZ) ?_;refine gQ (kN (T:=38) kn gZ) ?_;refine mU ?_;refine jL ?_;exact pQ 1 [0,1,2,3,4,5,6,7]
     refine goL ?_;refine gV 6 rfl rfl ?_;refine gV 4 rfl rfl ?_;refine jF ?_;obtain rfl:=Option.some.inj h;exact gB5 [.d (.st [.s ab,.sl 1 [],.st [.i .i64 e6,.s e7,.sl 3 (gN e8)],.sl 4 (kC ([]++[(gP.mk [101,113] (gB.mk dm dn dp))])),.b c8,.b ez,.st [.i .i64 e9,.s fa,.sl 3 (gN fb)],.sl 11 (mF [(jG.mk [109] [[120]] (gY.mk ac ad ae ag (gB.mk f y aa) ah ai))])])] [bCu gm gn go] ⟨rfl,rfl⟩
    ·refine goC h ?_ ?_<;>intro nc h
     ·obtain⟨⟨⟨bv,bw,bx,bz,⟨ax,ay,a0⟩,b0,b1⟩,⟨gp,gq,gr⟩⟩,hy,h⟩:=gJ h;obtain⟨mn,f7,h⟩:=gJ h;obtain⟨mo,f7⟩:=gBm f7;obtain⟨ck,cl,⟨dq,dr,dt,du,⟨bc,bd,be⟩,dv,dw⟩⟩:=mn;refine qY (P:=Tryz.prog) Mix.h (.q 0 (.q 2 (.h 1 (hcT 3 (hcT 4 (hcT 5 (hcT 6 (hzT 7))))) (hcT 3 (.h 1 (hcT 4 (hcT 5 (hcT 6 (hzT 7)))) (hcT 4 (hcT 1 (hcT 5 (hcT 6 (hzT 7)))))))))) ⟨[(2,.ptr 1 0),(3,.ptr 5 0)],[bCu gp gq gr,.box [.S [],.nilsl,.I 0,.S [],.nilsl,.nilsl,.B false,.B false,.I 0,.S [],.nilsl,.nilsl],.frz 9 1 0 (gT [[115,104,111,119],[101,113],[97,100,100]]),.frz 9 1 0 (gT [[120]]),.arr 103 11 0 (mF ([(jG.mk [109] [[120]] (gY.mk ac ad ae ag (gB.mk f y aa) ah ai))].set 0 (jG.mk ck cl (gY.mk bv bw bx bz (gB.mk ax ay a0) b0 b1)))),.box [.S ab,.nilsl,.I e6,.S e7,.L 3 (gN e8),.nilsl,.B c8,.B ez,.I e9,.S fa,.L 3 (gN fb),.sl 4 0],.frz 9 1 0 (gT [[120],[121]])],Tryz.f102.ntmps⟩ (by kernel_rfl) ?_ ?_
      ·refine mU ?_;refine uD (kF gZ) ?_ ?_
       ·refine gQ (kT (T:=34) (us:=gT [[120],[121]]) gZ) ?_;refine gQ (qC 6 rfl rfl (qU 0 (gAq 5000 (gK.mk aj ak al) [[120],[121]] 2 hy) gZ)) ?_;refine gQ (gAo 0 (List.getElem?_eq_some_iff.1 f7).1 gZ) ?_;refine gQ (gA6 gZ) ?_;refine gQ (gA7 [(.s ck),(.sl 1 (gT cl))] [] (.st [.i .i64 dq,.s dr,.s dt,.i .i64 du,.st [.i .i64 bc,.s bd,.sl 3 (gN be)],.sl 9 (kQ dv),.sl 11 (uZ dw)]) (.st [.i .i64 bv,.s bw,.s bx,.i .i64 bz,.st [.i .i64 ax,.s ay,.sl 3 (gN a0)],.sl 9 (kQ b0),.sl 11 (uZ b1)]) (jG.mk ck cl (gY.mk dq dr dt du (gB.mk bc bd be) dv dw)) (jG.mk ck cl (gY.mk bv bw bx bz (gB.mk ax ay a0) b0 b1)) f7 gZ) ?_;refine jL ?_;exact pQ 1 [0,1,2,3,4,5,6]
       refine gQ (kT (T:=34) (us:=gT [[120],[121]]) gZ) ?_;refine uD (kF gZ) ?_ ?_
       ·refine gQ (qC 6 rfl rfl (qU 0 (gAq 5000 (gK.mk aj ak al) [[120],[121]] 2 hy) gZ)) ?_;refine gQ (gAo 0 (List.getElem?_eq_some_iff.1 f7).1 gZ) ?_;refine gQ (gA6 gZ) ?_;refine gQ (gA7 [(.s ck),(.sl 1 (gT cl))] [] (.st [.i .i64 dq,.s dr,.s dt,.i .i64 du,.st [.i .i64 bc,.s bd,.sl 3 (gN be)],.sl 9 (kQ dv),.sl 11 (uZ dw)]) (.st [.i .i64 bv,.s bw,.s bx,.i .i64 bz,.st [.i .i64 ax,.s ay,.sl 3 (gN a0)],.sl 9 (kQ b0),.sl 11 (uZ b1)]) (jG.mk ck cl (gY.mk dq dr dt du (gB.mk bc bd be) dv dw)) (jG.mk ck cl (gY.mk bv bw bx bz (gB.mk ax ay a0) b0 b1)) f7 gZ) ?_;refine jL ?_;exact pQ 1 [0,1,2,3,4,5,6]
       refine gQ (qC 6 rfl rfl (qU 0 (gAq 5000 (gK.mk aj ak al) [[120],[121]] 2 hy) gZ)) ?_;refine gQ (kF gZ) ?_;refine gQ (gAo 0 (List.getElem?_eq_some_iff.1 f7).1 gZ) ?_;refine gQ (gA6 gZ) ?_;refine gQ (gA7 [(.s ck),(.sl 1 (gT cl))] [] (.st [.i .i64 dq,.s dr,.s dt,.i .i64 du,.st [.i .i64 bc,.s bd,.sl 3 (gN be)],.sl 9 (kQ dv),.sl 11 (uZ dw)]) (.st [.i .i64 bv,.s bw,.s bx,.i .i64 bz,.st [.i .i64 ax,.s ay,.sl 3 (gN a0)],.sl 9 (kQ b0),.sl 11 (uZ b1)]) (jG.mk ck cl (gY.mk dq dr dt du (gB.mk bc bd be) dv dw)) (jG.mk ck cl (gY.mk bv bw bx bz (gB.mk ax ay a0) b0 b1)) f7 gZ) ?_;refine jL ?_;exact pQ 1 [0,1,2,3,4,5,6]
      refine goL ?_;refine gV 4 rfl rfl ?_;refine jF ?_;obtain rfl:=Option.some.inj h;exact gB5 [.d (.st [.s ab,.sl 1 [],.st [.i .i64 e6,.s e7,.sl 3 (gN e8)],.sl 4 [],.b c8,.b ez,.st [.i .i64 e9,.s fa,.sl 3 (gN fb)],.sl 11 (mF ([(jG.mk [109] [[120]] (gY.mk ac ad ae ag (gB.mk f y aa) ah ai))].set 0 (jG.mk ck cl (gY.mk bv bw bx bz (gB.mk ax ay a0) b0 b1))))])] [bCu gp gq gr] ⟨rfl,rfl⟩
     ·refine goC h ?_ ?_<;>intro nd h
      ·refine goL ?_;obtain⟨⟨ko,kp,kq⟩,lh,h⟩:=gJ h;refine jP (gI (gH0  lh)) ?_;refine gV 4 rfl rfl ?_;refine jF ?_;obtain rfl:=Option.some.inj h;exact gB5 [.d (.st [.s ab,.sl 1 [],.st [.i .i64 e6,.s e7,.sl 3 (gN e8)],.sl 4 [],.b c8,.b ez,.st [.i .i64 ko,.s kp,.sl 3 (gN kq)],.sl 11 (mF [(jG.mk [109] [[120]] (gY.mk ac ad ae ag (gB.mk f y aa) ah ai))])])] [bCu aj ak al] ⟨rfl,rfl⟩
      ·refine goC h ?_ ?_<;>intro ne h
       ·refine goL ?_;refine gC1 ?_;obtain⟨mp,hj,h⟩:=gJ h;obtain⟨mq,hj⟩:=gBm hj;obtain⟨gf,hz,⟨fo,fp,fq,fr,⟨eo,ep,er⟩,fs,ft⟩⟩:=mp;refine vP (gXh 0 (List.getElem?_eq_some_iff.1 hj).1) ?_;refine vP (gXi) ?_;refine gBv 6 rfl rfl ?_;refine gRj [(.s gf)] [(.st [.i .i64 fo,.s fp,.s fq,.i .i64 fr,.st [.i .i64 eo,.s ep,.sl 3 (gN er)],.sl 9 (kQ fs),.sl 11 (uZ ft)])] (.sl 1 (gT hz)) (.sl 1 []) (jG.mk gf hz (gY.mk fo fp fq fr (gB.mk eo ep er) fs ft)) (jG.mk gf [] (gY.mk fo fp fq fr (gB.mk eo ep er) fs ft)) hj ?_;refine goL ?_;refine gV 4 rfl rfl ?_;refine jF ?_;obtain rfl:=Option.some.inj h;exact gB5 [.d (.st [.s ab,.sl 1 [],.st [.i .i64 e6,.s e7,.sl 3 (gN e8)],.sl 4 [],.b c8,.b ez,.st [.i .i64 e9,.s fa,.sl 3 (gN fb)],.sl 11 (mF ([(jG.mk [109] [[120]] (gY.mk ac ad ae ag (gB.mk f y aa) ah ai))].set 0 (jG.mk gf [] (gY.mk fo fp fq fr (gB.mk eo ep er) fs ft))))])] [bCu aj ak al] ⟨rfl,rfl⟩
       ·refine goS ?_;refine gV 4 rfl rfl ?_;refine jF ?_;obtain rfl:=Option.some.inj h;exact gB5 [.d (.st [.s ab,.sl 1 [],.st [.i .i64 e6,.s e7,.sl 3 (gN e8)],.sl 4 [],.b c8,.b ez,.st [.i .i64 e9,.s fa,.sl 3 (gN fb)],.sl 11 (mF [(jG.mk [109] [[120]] (gY.mk ac ad ae ag (gB.mk f y aa) ah ai))])])] [bCu aj ak al] ⟨rfl,rfl⟩
 ·refine goC h ?_ ?_<;>intro nf h
  ·refine goL ?_;refine uO (u:=(.s [97])) ?_;refine goL ?_;obtain⟨⟨fc,fd,fe⟩,li,h⟩:=uK h;have sx29:=gCl [97];rw [li] at sx29;refine uN (gI (sx29)) ?_;refine uO (u:=(.st [.i .i64 fc,.s fd,.sl 3 (gN fe)])) ?_;refine kS 7 rfl rfl ?_;obtain⟨⟨cm,cn,co⟩,lj,h⟩:=gJ h;refine vP (gRe (gDy [108,105,115,116] [(gB.mk fc fd fe)] lj)) ?_;refine gIb ?_;refine yL (P:=Tryz.prog) Mix.h [(0,true),(1,true),(2,true),(3,true),(4,false),(5,true),(6,false)] (by kernel_rfl) ?_;refine goY ?_;obtain⟨⟨bf,bg,bh⟩,lk,h⟩:=uK h;have sx31:=gCl [97];rw [lk] at sx31;refine jW rfl (gI (sx31)) ?_;refine goY ?_;refine kT (T:=38) (us:=kC [(gP.mk ab (gB.mk bf bg bh))]) ?_;refine goY ?_;refine mJ ?_;refine goL ?_;obtain⟨⟨mr,⟨h0,h1,h2⟩⟩,ll,h⟩:=gJ h;refine mI 0 (wB (gK.mk gb gc gd) 3 ll) ?_;refine goL ?_;refine gS8 3 5 10 rfl rfl (by repeat constructor) (by repeat constructor) ?_;obtain⟨⟨h3,h4,h5,cp,da,db,dc⟩,hb33,h⟩:=gJ h;refine wY ⟨[(0,.ptr 0 0),(2,.ptr 1 0),(3,.ptr 5 0)],[bCu h3 h4 h5,.box [.S [],.nilsl,.I 0,.S [],.nilsl,.nilsl,.B false,.B false,.I 0,.S [],.nilsl,.nilsl],.frz 9 1 0 (gT [[115,104,111,119],[101,113],[97,100,100]]),.frz 9 1 0 (gT [[120]]),.arr 103 11 0 (mF [(jG.mk [109] [[120]] (gY.mk ac ad ae ag (gB.mk f y aa) ah ai))]),.box [.S ab,.sl 6 0,.I cm,.S cn,.L 3 (gN co),.sl 8 0,.B false,.B cp,.I da,.S db,.L 3 (gN dc),.sl 4 0],.arr 9 1 0 (gT [[97]]),.frz 37 3 0 (gN [(gB.mk fc fd fe)]),.arr 53 4 0 (kC [(gP.mk ab (gB.mk bf bg bh))])],Tryz.f102.ntmps⟩ ?_ ?_
   ·refine mR (fun kr=>?_) (fun kr=>?_)
    ·replace hb33:=kU kr hb33;refine goL ?_;obtain⟨⟨⟨h6,h7,h8⟩,⟨h9,ia,ib⟩⟩,lm,hb33⟩:=gJ hb33;refine gBz [0,6] (gUs 5000 (gK.mk h0 h1 h2) [[97]] 1 0 lm) ?_;rintro _ _ ⟨rfl,rfl⟩;show VO _ _ _ _ ⟨(_,.d (.st [.i .i64 h6,.s h7,.sl 3 (gN h8)]))::_,[bCu h9 ia ib,.box [.S [],.nilsl,.I 0,.S [],.nilsl,.nilsl,.B false,.B false,.I 0,.S [],.nilsl,.nilsl],.frz 9 1 0 (gT [[115,104,111,119],[101,113],[97,100,100]]),.frz 9 1 0 (gT [[120]]),.arr 103 11 0 (mF [(jG.mk [109] [[120]] (gY.mk ac ad ae ag (gB.mk f y aa) ah ai))]),.box [.S ab,.sl 6 0,.I cm,.S cn,.L 3 (gN co),.sl 8 0,.B false,.B true,.I 0,.S [],.L 3 [],.sl 4 0],.arr 9 1 0 (gT [[97]]),.frz 37 3 0 (gN [(gB.mk fc fd fe)]),.arr 53 4 0 (kC [(gP.mk ab (gB.mk bf bg bh))])],_⟩ _;refine goL ?_;cases hb33;exact eJ
    ·replace hb33:=kV kr hb33;refine vN ?_;cases hb33;exact eJ
   refine goL ?_;obtain⟨⟨dd,⟨ic,id,ie⟩⟩,ln,h⟩:=gJ h;refine mI 0 (wB (gK.mk h3 h4 h5) 4 ln) ?_;refine goL ?_;obtain⟨⟨ms,⟨am,an,ao⟩⟩,lo,h⟩:=gJ h;refine mI 0 (mH (gK.mk ic id ie) 12 lo) ?_;refine goL ?_;refine jA ?_;refine goC h ?_ ?_<;>intro ng h
   ·refine goL ?_;obtain⟨⟨⟨ig,ih,ii⟩,⟨ij,ik,il⟩⟩,lp,h⟩:=gJ h;refine mI 0 (zU (gK.mk am an ao) 2 lp) ?_;refine goL ?_;refine gV 6 rfl rfl ?_;refine gV 8 rfl rfl ?_;refine gV 4 rfl rfl ?_;refine jF ?_;obtain rfl:=Option.some.inj h;exact gB5 [.d (.st [.s ab,.sl 1 (gT [[97]]),.st [.i .i64 ig,.s ih,.sl 3 (gN ii)],.sl 4 (kC [(gP.mk ab (gB.mk bf bg bh))]),.b dd,.b cp,.st [.i .i64 da,.s db,.sl 3 (gN dc)],.sl 11 (mF [(jG.mk [109] [[120]] (gY.mk ac ad ae ag (gB.mk f y aa) ah ai))])])] [bCu ij ik il] ⟨rfl,rfl⟩
   ·refine goC h ?_ ?_<;>intro nh h
    ·obtain⟨⟨ff,⟨gs,gt,gu⟩⟩,im,h⟩:=gJ h;obtain⟨kd,h⟩:=pU h;refine qY (P:=Tryz.prog) Mix.h (.q 0 (.q 2 (.h 1 (hcT 3 (hcT 4 (hcT 5 (hcT 6 (.q 7 (hzT 8)))))) (hcT 3 (.h 1 (hcT 4 (hcT 5 (hcT 6 (.q 7 (hzT 8))))) (hcT 4 (.h 1 (hcT 5 (hcT 6 (.q 7 (hzT 8)))) (hcT 5 (hcT 1 (hcT 6 (.q 7 (hzT 8)))))))))))) ⟨[(2,.ptr 1 0),(3,.ptr 5 0)],[bCu gs gt gu,.box [.S [],.nilsl,.I 0,.S [],.nilsl,.nilsl,.B false,.B false,.I 0,.S [],.nilsl,.nilsl],.frz 9 1 0 (gT [[115,104,111,119],[101,113],[97,100,100]]),.frz 9 1 0 (gT [[120]]),.arr 103 11 0 (mF [(jG.mk [109] [[120]] (gY.mk ac ad ae ag (gB.mk f y aa) ah ai))]),.box [.S ab,.sl 6 (0+1),.I cm,.S cn,.L 3 (gN co),.sl 8 0,.B dd,.B cp,.I da,.S db,.L 3 (gN dc),.sl 4 0],.arr 9 1 (0+1) (gT ([[97]]++[ff])),.frz 37 3 0 (gN [(gB.mk fc fd fe)]),.arr 53 4 0 (kC [(gP.mk ab (gB.mk bf bg bh))]),.frz 9 1 0 (gT [[97],[99]]),.arr 9 1 0 (gT [ff])],Tryz.f102.ntmps⟩ (by kernel_rfl) ?_ ?_
     ·refine mU ?_;refine uD (kF gZ) ?_ ?_
      ·refine gQ (kT (T:=34) (us:=gT [[97],[99]]) gZ) ?_;refine gQ (qC 9 rfl rfl (qU 0 (kZ (gK.mk am an ao) [[97],[99]] im) gZ)) ?_;refine gQ (kT (T:=34) (us:=gT [ff]) gZ) ?_;refine gQ (kN (T:=34) kd gZ) ?_;refine mU ?_;refine jL ?_;exact pQ 1 [0,1,2,3,4,5,6,7,8,9,10]
      refine gQ (kT (T:=34) (us:=gT [[97],[99]]) gZ) ?_;refine uD (kF gZ) ?_ ?_
      ·refine gQ (qC 9 rfl rfl (qU 0 (kZ (gK.mk am an ao) [[97],[99]] im) gZ)) ?_;refine gQ (kT (T:=34) (us:=gT [ff]) gZ) ?_;refine gQ (kN (T:=34) kd gZ) ?_;refine mU ?_;refine jL ?_;exact pQ 1 [0,1,2,3,4,5,6,7,8,9,10]
      refine gQ (qC 9 rfl rfl (qU 0 (kZ (gK.mk am an ao) [[97],[99]] im) gZ)) ?_;refine uD (kF gZ) ?_ ?_
      ·refine gQ (kT (T:=34) (us:=gT [ff]) gZ) ?_;refine gQ (kN (T:=34) kd gZ) ?_;refine mU ?_;refine jL ?_;exact pQ 1 [0,1,2,3,4,5,6,7,8,9,10]
      refine gQ (kT (T:=34) (us:=gT [ff]) gZ) ?_;refine gQ (kF gZ) ?_;refine gQ (kN (T:=34) kd gZ) ?_;refine mU ?_;refine jL ?_;exact pQ 1 [0,1,2,3,4,5,6,7,8,9,10]
     refine goL ?_;refine gV 6 rfl rfl ?_;refine gV 8 rfl rfl ?_;refine gV 4 rfl rfl ?_;refine jF ?_;obtain rfl:=Option.some.inj h;exact gB5 [.d (.st [.s ab,.sl 1 (gT ([[97]]++[ff])),.st [.i .i64 cm,.s cn,.sl 3 (gN co)],.sl 4 (kC [(gP.mk ab (gB.mk bf bg bh))]),.b dd,.b cp,.st [.i .i64 da,.s db,.sl 3 (gN dc)],.sl 11 (mF [(jG.mk [109] [[120]] (gY.mk ac ad ae ag (gB.mk f y aa) ah ai))])])] [bCu gs gt gu] ⟨rfl,rfl⟩
    ·refine goC h ?_ ?_<;>intro ni h
     ·obtain⟨⟨⟨dx,dy,dz⟩,⟨gv,gw,gx⟩⟩,kk,h⟩:=gJ h;obtain⟨ks,h⟩:=pU h;refine qY (P:=Tryz.prog) Mix.h (.q 0 (.q 2 (.h 1 (hcT 3 (.q 4 (hcT 5 (hcT 6 (.q 7 (hzT 8)))))) (hcT 3 (.q 4 (.h 1 (hcT 5 (hcT 6 (.q 7 (hzT 8)))) (hcT 5 (hcT 1 (hcT 6 (.q 7 (hzT 8))))))))))) ⟨[(2,.ptr 1 0),(3,.ptr 5 0)],[bCu gv gw gx,.box [.S [],.nilsl,.I 0,.S [],.nilsl,.nilsl,.B false,.B false,.I 0,.S [],.nilsl,.nilsl],.frz 9 1 0 (gT [[115,104,111,119],[101,113],[97,100,100]]),.frz 9 1 0 (gT [[120]]),.arr 103 11 0 (mF [(jG.mk [109] [[120]] (gY.mk ac ad ae ag (gB.mk f y aa) ah ai))]),.box [.S ab,.sl 6 0,.I cm,.S cn,.L 3 (gN co),.sl 8 (0+1),.B dd,.B cp,.I da,.S db,.L 3 (gN dc),.sl 4 0],.arr 9 1 0 (gT [[97]]),.frz 37 3 0 (gN [(gB.mk fc fd fe)]),.arr 53 4 (0+1) (kC ([(gP.mk ab (gB.mk bf bg bh))]++[(gP.mk [101,113] (gB.mk dx dy dz))])),.arr 53 4 0 (kC [(gP.mk [101,113] (gB.mk dx dy dz))])],Tryz.f102.ntmps⟩ (by kernel_rfl) ?_ ?_
      ·refine mU ?_;refine uD (kF gZ) ?_ ?_
       ·refine gQ (qU 0 (zU (gK.mk am an ao) 1 kk) gZ) ?_;refine mU ?_;refine gQ (kT (T:=38) (us:=kC [(gP.mk [101,113] (gB.mk dx dy dz))]) gZ) ?_;refine gQ (kN (T:=38) ks gZ) ?_;refine mU ?_;refine jL ?_;exact pQ 1 [0,1,2,3,4,5,6,7,8,9]
       refine gQ (qU 0 (zU (gK.mk am an ao) 1 kk) gZ) ?_;refine mU ?_;refine uD (kF gZ) ?_ ?_
       ·refine gQ (kT (T:=38) (us:=kC [(gP.mk [101,113] (gB.mk dx dy dz))]) gZ) ?_;refine gQ (kN (T:=38) ks gZ) ?_;refine mU ?_;refine jL ?_;exact pQ 1 [0,1,2,3,4,5,6,7,8,9]
       refine gQ (kT (T:=38) (us:=kC [(gP.mk [101,113] (gB.mk dx dy dz))]) gZ) ?_;refine gQ (kF gZ) ?_;refine gQ (kN (T:=38) ks gZ) ?_;refine mU ?_;refine jL ?_;exact pQ 1 [0,1,2,3,4,5,6,7,8,9]
      refine goL ?_;refine gV 6 rfl rfl ?_;refine gV 8 rfl rfl ?_;refine gV 4 rfl rfl ?_;refine jF ?_;obtain rfl:=Option.some.inj h;exact gB5 [.d (.st [.s ab,.sl 1 (gT [[97]]),.st [.i .i64 cm,.s cn,.sl 3 (gN co)],.sl 4 (kC ([(gP.mk ab (gB.mk bf bg bh))]++[(gP.mk [101,113] (gB.mk dx dy dz))])),.b dd,.b cp,.st [.i .i64 da,.s db,.sl 3 (gN dc)],.sl 11 (mF [(jG.mk [109] [[120]] (gY.mk ac ad ae ag (gB.mk f y aa) ah ai))])])] [bCu gv gw gx] ⟨rfl,rfl⟩
     ·refine goC h ?_ ?_<;>intro nj h
      ·obtain⟨⟨⟨b2,b3,b4,b5,⟨a3,a4,a5⟩,b6,b7⟩,⟨gy,gz,g0⟩⟩,io,h⟩:=gJ h;obtain⟨mt,f8,h⟩:=gJ h;obtain⟨mu,f8⟩:=gBm f8;obtain⟨cq,cr,⟨d0,d1,d2,d3,⟨bi,bj,bk⟩,d4,d5⟩⟩:=mt;refine qY (P:=Tryz.prog) Mix.h (.q 0 (.q 2 (.h 1 (hcT 3 (hcT 4 (hcT 5 (hcT 6 (hzT 7))))) (hcT 3 (.h 1 (hcT 4 (hcT 5 (hcT 6 (hzT 7)))) (hcT 4 (hcT 1 (hcT 5 (hcT 6 (hzT 7)))))))))) ⟨[(2,.ptr 1 0),(3,.ptr 5 0)],[bCu gy gz g0,.box [.S [],.nilsl,.I 0,.S [],.nilsl,.nilsl,.B false,.B false,.I 0,.S [],.nilsl,.nilsl],.frz 9 1 0 (gT [[115,104,111,119],[101,113],[97,100,100]]),.frz 9 1 0 (gT [[120]]),.arr 103 11 0 (mF ([(jG.mk [109] [[120]] (gY.mk ac ad ae ag (gB.mk f y aa) ah ai))].set 0 (jG.mk cq cr (gY.mk b2 b3 b4 b5 (gB.mk a3 a4 a5) b6 b7)))),.box [.S ab,.sl 6 0,.I cm,.S cn,.L 3 (gN co),.sl 8 0,.B dd,.B cp,.I da,.S db,.L 3 (gN dc),.sl 4 0],.arr 9 1 0 (gT [[97]]),.frz 37 3 0 (gN [(gB.mk fc fd fe)]),.arr 53 4 0 (kC [(gP.mk ab (gB.mk bf bg bh))]),.frz 9 1 0 (gT [[120],[121]])],Tryz.f102.ntmps⟩ (by kernel_rfl) ?_ ?_
       ·refine mU ?_;refine uD (kF gZ) ?_ ?_
        ·refine gQ (kT (T:=34) (us:=gT [[120],[121]]) gZ) ?_;refine gQ (qC 9 rfl rfl (qU 0 (gAq 5000 (gK.mk am an ao) [[120],[121]] 2 io) gZ)) ?_;refine gQ (gAo 0 (List.getElem?_eq_some_iff.1 f8).1 gZ) ?_;refine gQ (gA6 gZ) ?_;refine gQ (gA7 [(.s cq),(.sl 1 (gT cr))] [] (.st [.i .i64 d0,.s d1,.s d2,.i .i64 d3,.st [.i .i64 bi,.s bj,.sl 3 (gN bk)],.sl 9 (kQ d4),.sl 11 (uZ d5)]) (.st [.i .i64 b2,.s b3,.s b4,.i .i64 b5,.st [.i .i64 a3,.s a4,.sl 3 (gN a5)],.sl 9 (kQ b6),.sl 11 (uZ b7)]) (jG.mk cq cr (gY.mk d0 d1 d2 d3 (gB.mk bi bj bk) d4 d5)) (jG.mk cq cr (gY.mk b2 b3 b4 b5 (gB.mk a3 a4 a5) b6 b7)) f8 gZ) ?_;refine jL ?_;exact pQ 1 [0,1,2,3,4,5,6,7,8,9]
        refine gQ (kT (T:=34) (us:=gT [[120],[121]]) gZ) ?_;refine uD (kF gZ) ?_ ?_
        ·refine gQ (qC 9 rfl rfl (qU 0 (gAq 5000 (gK.mk am an ao) [[120],[121]] 2 io) gZ)) ?_;refine gQ (gAo 0 (List.getElem?_eq_some_iff.1 f8).1 gZ) ?_;refine gQ (gA6 gZ) ?_;refine gQ (gA7 [(.s cq),(.sl 1 (gT cr))] [] (.st [.i .i64 d0,.s d1,.s d2,.i .i64 d3,.st [.i .i64 bi,.s bj,.sl 3 (gN bk)],.sl 9 (kQ d4),.sl 11 (uZ d5)]) (.st [.i .i64 b2,.s b3,.s b4,.i .i64 b5,.st [.i .i64 a3,.s a4,.sl 3 (gN a5)],.sl 9 (kQ b6),.sl 11 (uZ b7)]) (jG.mk cq cr (gY.mk d0 d1 d2 d3 (gB.mk bi bj bk) d4 d5)) (jG.mk cq cr (gY.mk b2 b3 b4 b5 (gB.mk a3 a4 a5) b6 b7)) f8 gZ) ?_;refine jL ?_;exact pQ 1 [0,1,2,3,4,5,6,7,8,9]
        refine gQ (qC 9 rfl rfl (qU 0 (gAq 5000 (gK.mk am an ao) [[120],[121]] 2 io) gZ)) ?_;refine gQ (kF gZ) ?_;refine gQ (gAo 0 (List.getElem?_eq_some_iff.1 f8).1 gZ) ?_;refine gQ (gA6 gZ) ?_;refine gQ (gA7 [(.s cq),(.sl 1 (gT cr))] [] (.st [.i .i64 d0,.s d1,.s d2,.i .i64 d3,.st [.i .i64 bi,.s bj,.sl 3 (gN bk)],.sl 9 (kQ d4),.sl 11 (uZ d5)]) (.st [.i .i64 b2,.s b3,.s b4,.i .i64 b5,.st [.i .i64 a3,.s a4,.sl 3 (gN a5)],.sl 9 (kQ b6),.sl 11 (uZ b7)]) (jG.mk cq cr (gY.mk d0 d1 d2 d3 (gB.mk bi bj bk) d4 d5)) (jG.mk cq cr (gY.mk b2 b3 b4 b5 (gB.mk a3 a4 a5) b6 b7)) f8 gZ) ?_;refine jL ?_;exact pQ 1 [0,1,2,3,4,5,6,7,8,9]
       refine goL ?_;refine gV 6 rfl rfl ?_;refine gV 8 rfl rfl ?_;refine gV 4 rfl rfl ?_;refine jF ?_;obtain rfl:=Option.some.inj h;exact gB5 [.d (.st [.s ab,.sl 1 (gT [[97]]),.st [.i .i64 cm,.s cn,.sl 3 (gN co)],.sl 4 (kC [(gP.mk ab (gB.mk bf bg bh))]),.b dd,.b cp,.st [.i .i64 da,.s db,.sl 3 (gN dc)],.sl 11 (mF ([(jG.mk [109] [[120]] (gY.mk ac ad ae ag (gB.mk f y aa) ah ai))].set 0 (jG.mk cq cr (gY.mk b2 b3 b4 b5 (gB.mk a3 a4 a5) b6 b7))))])] [bCu gy gz g0] ⟨rfl,rfl⟩
      ·refine goC h ?_ ?_<;>intro nk h
       ·refine goL ?_;obtain⟨⟨kt,ku,kv⟩,lq,h⟩:=gJ h;refine jP (gI (gH0  lq)) ?_;refine gV 6 rfl rfl ?_;refine gV 8 rfl rfl ?_;refine gV 4 rfl rfl ?_;refine jF ?_;obtain rfl:=Option.some.inj h;exact gB5 [.d (.st [.s ab,.sl 1 (gT [[97]]),.st [.i .i64 cm,.s cn,.sl 3 (gN co)],.sl 4 (kC [(gP.mk ab (gB.mk bf bg bh))]),.b dd,.b cp,.st [.i .i64 kt,.s ku,.sl 3 (gN kv)],.sl 11 (mF [(jG.mk [109] [[120]] (gY.mk ac ad ae ag (gB.mk f y aa) ah ai))])])] [bCu am an ao] ⟨rfl,rfl⟩
       ·refine goC h ?_ ?_<;>intro nl h
        ·refine goL ?_;refine gC1 ?_;obtain⟨mv,hk,h⟩:=gJ h;obtain⟨mw,hk⟩:=gBm hk;obtain⟨gg,ip,⟨fu,fv,fw,fx,⟨et,eu,ev⟩,fy,fz⟩⟩:=mv;refine vP (gXh 0 (List.getElem?_eq_some_iff.1 hk).1) ?_;refine vP (gXi) ?_;refine gBv 9 rfl rfl ?_;refine gRj [(.s gg)] [(.st [.i .i64 fu,.s fv,.s fw,.i .i64 fx,.st [.i .i64 et,.s eu,.sl 3 (gN ev)],.sl 9 (kQ fy),.sl 11 (uZ fz)])] (.sl 1 (gT ip)) (.sl 1 []) (jG.mk gg ip (gY.mk fu fv fw fx (gB.mk et eu ev) fy fz)) (jG.mk gg [] (gY.mk fu fv fw fx (gB.mk et eu ev) fy fz)) hk ?_;refine goL ?_;refine gV 6 rfl rfl ?_;refine gV 8 rfl rfl ?_;refine gV 4 rfl rfl ?_;refine jF ?_;obtain rfl:=Option.some.inj h;exact gB5 [.d (.st [.s ab,.sl 1 (gT [[97]]),.st [.i .i64 cm,.s cn,.sl 3 (gN co)],.sl 4 (kC [(gP.mk ab (gB.mk bf bg bh))]),.b dd,.b cp,.st [.i .i64 da,.s db,.sl 3 (gN dc)],.sl 11 (mF ([(jG.mk [109] [[120]] (gY.mk ac ad ae ag (gB.mk f y aa) ah ai))].set 0 (jG.mk gg [] (gY.mk fu fv fw fx (gB.mk et eu ev) fy fz))))])] [bCu am an ao] ⟨rfl,rfl⟩
        ·refine goS ?_;refine gV 6 rfl rfl ?_;refine gV 8 rfl rfl ?_;refine gV 4 rfl rfl ?_;refine jF ?_;obtain rfl:=Option.some.inj h;exact gB5 [.d (.st [.s ab,.sl 1 (gT [[97]]),.st [.i .i64 cm,.s cn,.sl 3 (gN co)],.sl 4 (kC [(gP.mk ab (gB.mk bf bg bh))]),.b dd,.b cp,.st [.i .i64 da,.s db,.sl 3 (gN dc)],.sl 11 (mF [(jG.mk [109] [[120]] (gY.mk ac ad ae ag (gB.mk f y aa) ah ai))])])] [bCu am an ao] ⟨rfl,rfl⟩
  ·refine goC h ?_ ?_<;>intro nm h
   ·refine goL ?_;refine yQ (us:=gT [[97],[98]]) ?_;refine goL ?_;obtain⟨⟨fg,fh,fi⟩,lr,h⟩:=uK h;have sx54:=gCl [97];rw [lr] at sx54;refine uN (gI (sx54)) ?_;obtain⟨⟨fj,fk,fl⟩,ls,h⟩:=uK h;have sx55:=gCl [98];rw [ls] at sx55;refine uN (gI (sx55)) ?_;refine yQ (us:=gN [(gB.mk fg fh fi),(gB.mk fj fk fl)]) ?_;refine kS 7 rfl rfl ?_;obtain⟨⟨cs,ct,cu⟩,lt,h⟩:=gJ h;refine yT (gRe (gDy [112,97,105,114] [(gB.mk fg fh fi),(gB.mk fj fk fl)] lt)) ?_;obtain⟨⟨mx,⟨iq,ir,it⟩⟩,lu,h⟩:=gJ h;refine mI 0 (wB (gK.mk gb gc gd) 3 lu) ?_;refine goL ?_;refine gS8 3 5 10 rfl rfl (by repeat constructor) (by repeat constructor) ?_;obtain⟨⟨iu,iv,iw,cv,de,df,dg⟩,hb58,h⟩:=gJ h;refine wY ⟨[(0,.ptr 0 0),(2,.ptr 1 0),(3,.ptr 5 0)],[bCu iu iv iw,.box [.S [],.nilsl,.I 0,.S [],.nilsl,.nilsl,.B false,.B false,.I 0,.S [],.nilsl,.nilsl],.frz 9 1 0 (gT [[115,104,111,119],[101,113],[97,100,100]]),.frz 9 1 0 (gT [[120]]),.arr 103 11 0 (mF [(jG.mk [109] [[120]] (gY.mk ac ad ae ag (gB.mk f y aa) ah ai))]),.box [.S ab,.sl 6 0,.I cs,.S ct,.L 3 (gN cu),.nilsl,.B false,.B cv,.I de,.S df,.L 3 (gN dg),.sl 4 0],.arr 9 1 0 (gT [[97],[98]]),.frz 37 3 0 (gN [(gB.mk fg fh fi),(gB.mk fj fk fl)])],Tryz.f102.ntmps⟩ ?_ ?_
    ·refine mR (fun kw=>?_) (fun kw=>?_)
     ·replace hb58:=kU kw hb58;refine goL ?_;obtain⟨⟨⟨ix,iy,iz⟩,⟨i0,i1,i2⟩⟩,lv,hb58⟩:=gJ hb58;refine gBz [0,6] (gUs 5000 (gK.mk iq ir it) [[97],[98]] 1 0 lv) ?_;rintro _ _ ⟨rfl,rfl⟩;show VO _ _ _ _ ⟨(_,.d (.st [.i .i64 ix,.s iy,.sl 3 (gN iz)]))::_,[bCu i0 i1 i2,.box [.S [],.nilsl,.I 0,.S [],.nilsl,.nilsl,.B false,.B false,.I 0,.S [],.nilsl,.nilsl],.frz 9 1 0 (gT [[115,104,111,119],[101,113],[97,100,100]]),.frz 9 1 0 (gT [[120]]),.arr 103 11 0 (mF [(jG.mk [109] [[120]] (gY.mk ac ad ae ag (gB.mk f y aa) ah ai))]),.box [.S ab,.sl 6 0,.I cs,.S ct,.L 3 (gN cu),.nilsl,.B false,.B true,.I 0,.S [],.L 3 [],.sl 4 0],.arr 9 1 0 (gT [[97],[98]]),.frz 37 3 0 (gN [(gB.mk fg fh fi),(gB.mk fj fk fl)])],_⟩ _;refine goL ?_;cases hb58;exact eJ
     ·replace hb58:=kV kw hb58;refine vN ?_;cases hb58;exact eJ
    refine goL ?_;obtain⟨⟨dh,⟨i3,i4,i5⟩⟩,lw,h⟩:=gJ h;refine mI 0 (wB (gK.mk iu iv iw) 4 lw) ?_;refine goL ?_;obtain⟨⟨my,⟨ap,aq,ar⟩⟩,lx,h⟩:=gJ h;refine mI 0 (mH (gK.mk i3 i4 i5) 12 lx) ?_;refine goL ?_;refine jA ?_;refine goC h ?_ ?_<;>intro nn h
    ·refine goL ?_;obtain⟨⟨⟨i6,i7,i8⟩,⟨i9,ja,jb⟩⟩,ly,h⟩:=gJ h;refine mI 0 (zU (gK.mk ap aq ar) 2 ly) ?_;refine goL ?_;refine gV 6 rfl rfl ?_;refine gV 4 rfl rfl ?_;refine jF ?_;obtain rfl:=Option.some.inj h;exact gB5 [.d (.st [.s ab,.sl 1 (gT [[97],[98]]),.st [.i .i64 i6,.s i7,.sl 3 (gN i8)],.sl 4 [],.b dh,.b cv,.st [.i .i64 de,.s df,.sl 3 (gN dg)],.sl 11 (mF [(jG.mk [109] [[120]] (gY.mk ac ad ae ag (gB.mk f y aa) ah ai))])])] [bCu i9 ja jb] ⟨rfl,rfl⟩
    ·refine goC h ?_ ?_<;>intro no h
     ·obtain⟨⟨fm,⟨g1,g2,g3⟩⟩,jc,h⟩:=gJ h;obtain⟨ke,h⟩:=pU h;refine qY (P:=Tryz.prog) Mix.h (.q 0 (.q 2 (.h 1 (hcT 3 (hcT 4 (hcT 5 (hcT 6 (.q 7 (hzT 8)))))) (hcT 3 (.h 1 (hcT 4 (hcT 5 (hcT 6 (.q 7 (hzT 8))))) (hcT 4 (.h 1 (hcT 5 (hcT 6 (.q 7 (hzT 8)))) (hcT 5 (hcT 1 (hcT 6 (.q 7 (hzT 8)))))))))))) ⟨[(2,.ptr 1 0),(3,.ptr 5 0)],[bCu g1 g2 g3,.box [.S [],.nilsl,.I 0,.S [],.nilsl,.nilsl,.B false,.B false,.I 0,.S [],.nilsl,.nilsl],.frz 9 1 0 (gT [[115,104,111,119],[101,113],[97,100,100]]),.frz 9 1 0 (gT [[120]]),.arr 103 11 0 (mF [(jG.mk [109] [[120]] (gY.mk ac ad ae ag (gB.mk f y aa) ah ai))]),.box [.S ab,.sl 6 (0+1),.I cs,.S ct,.L 3 (gN cu),.nilsl,.B dh,.B cv,.I de,.S df,.L 3 (gN dg),.sl 4 0],.arr 9 1 (0+1) (gT ([[97],[98]]++[fm])),.frz 37 3 0 (gN [(gB.mk fg fh fi),(gB.mk fj fk fl)]),.frz 9 1 0 (gT [[97],[99]]),.arr 9 1 0 (gT [fm])],Tryz.f102.ntmps⟩ (by kernel_rfl) ?_ ?_
      ·refine mU ?_;refine uD (kF gZ) ?_ ?_
       ·refine gQ (kT (T:=34) (us:=gT [[97],[99]]) gZ) ?_;refine gQ (qC 8 rfl rfl (qU 0 (kZ (gK.mk ap aq ar) [[97],[99]] jc) gZ)) ?_;refine gQ (kT (T:=34) (us:=gT [fm]) gZ) ?_;refine gQ (kN (T:=34) ke gZ) ?_;refine mU ?_;refine jL ?_;exact pQ 1 [0,1,2,3,4,5,6,7,8,9]
       refine gQ (kT (T:=34) (us:=gT [[97],[99]]) gZ) ?_;refine uD (kF gZ) ?_ ?_
       ·refine gQ (qC 8 rfl rfl (qU 0 (kZ (gK.mk ap aq ar) [[97],[99]] jc) gZ)) ?_;refine gQ (kT (T:=34) (us:=gT [fm]) gZ) ?_;refine gQ (kN (T:=34) ke gZ) ?_;refine mU ?_;refine jL ?_;exact pQ 1 [0,1,2,3,4,5,6,7,8,9]
       refine gQ (qC 8 rfl rfl (qU 0 (kZ (gK.mk ap aq ar) [[97],[99]] jc) gZ)) ?_;refine uD (kF gZ) ?_ ?_
       ·refine gQ (kT (T:=34) (us:=gT [fm]) gZ) ?_;refine gQ (kN (T:=34) ke gZ) ?_;refine mU ?_;refine jL ?_;exact pQ 1 [0,1,2,3,4,5,6,7,8,9]
       refine gQ (kT (T:=34) (us:=gT [fm]) gZ) ?_;refine gQ (kF gZ) ?_;refine gQ (kN (T:=34) ke gZ) ?_;refine mU ?_;refine jL ?_;exact pQ 1 [0,1,2,3,4,5,6,7,8,9]
      refine goL ?_;refine gV 6 rfl rfl ?_;refine gV 4 rfl rfl ?_;refine jF ?_;obtain rfl:=Option.some.inj h;exact gB5 [.d (.st [.s ab,.sl 1 (gT ([[97],[98]]++[fm])),.st [.i .i64 cs,.s ct,.sl 3 (gN cu)],.sl 4 [],.b dh,.b cv,.st [.i .i64 de,.s df,.sl 3 (gN dg)],.sl 11 (mF [(jG.mk [109] [[120]] (gY.mk ac ad ae ag (gB.mk f y aa) ah ai))])])] [bCu g1 g2 g3] ⟨rfl,rfl⟩
     ·refine goC h ?_ ?_<;>intro np h
      ·refine qZ 53 4 5 5 rfl rfl (by repeat constructor) (by repeat constructor) (by repeat constructor) (by repeat constructor) ?_;obtain⟨⟨⟨d6,d7,d8⟩,⟨g4,g5,g6⟩⟩,kl,h⟩:=gJ h;obtain⟨kx,h⟩:=pU h;refine qY (P:=Tryz.prog) Mix.h (.q 0 (.q 2 (.h 1 (hcT 3 (.q 4 (hcT 5 (hcT 6 (.q 7 (hzT 8)))))) (hcT 3 (.q 4 (.h 1 (hcT 5 (hcT 6 (.q 7 (hzT 8)))) (hcT 5 (hcT 1 (hcT 6 (.q 7 (hzT 8))))))))))) ⟨[(2,.ptr 1 0),(3,.ptr 5 0)],[bCu g4 g5 g6,.box [.S [],.nilsl,.I 0,.S [],.nilsl,.nilsl,.B false,.B false,.I 0,.S [],.nilsl,.nilsl],.frz 9 1 0 (gT [[115,104,111,119],[101,113],[97,100,100]]),.frz 9 1 0 (gT [[120]]),.arr 103 11 0 (mF [(jG.mk [109] [[120]] (gY.mk ac ad ae ag (gB.mk f y aa) ah ai))]),.box [.S ab,.sl 6 0,.I cs,.S ct,.L 3 (gN cu),.sl 8 (0+1),.B dh,.B cv,.I de,.S df,.L 3 (gN dg),.sl 4 0],.arr 9 1 0 (gT [[97],[98]]),.frz 37 3 0 (gN [(gB.mk fg fh fi),(gB.mk fj fk fl)]),.arr 53 4 (0+1) (kC ([]++[(gP.mk [101,113] (gB.mk d6 d7 d8))])),.arr 53 4 0 (kC [(gP.mk [101,113] (gB.mk d6 d7 d8))])],Tryz.f102.ntmps⟩ (by kernel_rfl) ?_ ?_
       ·refine mU ?_;refine uD (kF gZ) ?_ ?_
        ·refine gQ (qU 0 (zU (gK.mk ap aq ar) 1 kl) gZ) ?_;refine mU ?_;refine gQ (kT (T:=38) (us:=kC [(gP.mk [101,113] (gB.mk d6 d7 d8))]) gZ) ?_;refine gQ (kN (T:=38) kx gZ) ?_;refine mU ?_;refine jL ?_;exact pQ 1 [0,1,2,3,4,5,6,7,8,9]
        refine gQ (qU 0 (zU (gK.mk ap aq ar) 1 kl) gZ) ?_;refine mU ?_;refine uD (kF gZ) ?_ ?_
        ·refine gQ (kT (T:=38) (us:=kC [(gP.mk [101,113] (gB.mk d6 d7 d8))]) gZ) ?_;refine gQ (kN (T:=38) kx gZ) ?_;refine mU ?_;refine jL ?_;exact pQ 1 [0,1,2,3,4,5,6,7,8,9]
        refine gQ (kT (T:=38) (us:=kC [(gP.mk [101,113] (gB.mk d6 d7 d8))]) gZ) ?_;refine gQ (kF gZ) ?_;refine gQ (kN (T:=38) kx gZ) ?_;refine mU ?_;refine jL ?_;exact pQ 1 [0,1,2,3,4,5,6,7,8,9]
       refine goL ?_;refine gV 6 rfl rfl ?_;refine gV 8 rfl rfl ?_;refine gV 4 rfl rfl ?_;refine jF ?_;obtain rfl:=Option.some.inj h;exact gB5 [.d (.st [.s ab,.sl 1 (gT [[97],[98]]),.st [.i .i64 cs,.s ct,.sl 3 (gN cu)],.sl 4 (kC ([]++[(gP.mk [101,113] (gB.mk d6 d7 d8))])),.b dh,.b cv,.st [.i .i64 de,.s df,.sl 3 (gN dg)],.sl 11 (mF [(jG.mk [109] [[120]] (gY.mk ac ad ae ag (gB.mk f y aa) ah ai))])])] [bCu g4 g5 g6] ⟨rfl,rfl⟩
      ·refine goC h ?_ ?_<;>intro nq h
       ·obtain⟨⟨⟨b8,b9,ca,cb,⟨a6,a7,a8⟩,cc,cd⟩,⟨g7,g8,g9⟩⟩,jd,h⟩:=gJ h;obtain⟨mz,f9,h⟩:=gJ h;obtain⟨m0,f9⟩:=gBm f9;obtain⟨cw,cx,⟨d9,ea,eb,ec,⟨bl,bm,bn⟩,ed,ee⟩⟩:=mz;refine qY (P:=Tryz.prog) Mix.h (.q 0 (.q 2 (.h 1 (hcT 3 (hcT 4 (hcT 5 (hcT 6 (hzT 7))))) (hcT 3 (.h 1 (hcT 4 (hcT 5 (hcT 6 (hzT 7)))) (hcT 4 (hcT 1 (hcT 5 (hcT 6 (hzT 7)))))))))) ⟨[(2,.ptr 1 0),(3,.ptr 5 0)],[bCu g7 g8 g9,.box [.S [],.nilsl,.I 0,.S [],.nilsl,.nilsl,.B false,.B false,.I 0,.S [],.nilsl,.nilsl],.frz 9 1 0 (gT [[115,104,111,119],[101,113],[97,100,100]]),.frz 9 1 0 (gT [[120]]),.arr 103 11 0 (mF ([(jG.mk [109] [[120]] (gY.mk ac ad ae ag (gB.mk f y aa) ah ai))].set 0 (jG.mk cw cx (gY.mk b8 b9 ca cb (gB.mk a6 a7 a8) cc cd)))),.box [.S ab,.sl 6 0,.I cs,.S ct,.L 3 (gN cu),.nilsl,.B dh,.B cv,.I de,.S df,.L 3 (gN dg),.sl 4 0],.arr 9 1 0 (gT [[97],[98]]),.frz 37 3 0 (gN [(gB.mk fg fh fi),(gB.mk fj fk fl)]),.frz 9 1 0 (gT [[120],[121]])],Tryz.f102.ntmps⟩ (by kernel_rfl) ?_ ?_
        ·refine mU ?_;refine uD (kF gZ) ?_ ?_
         ·refine gQ (kT (T:=34) (us:=gT [[120],[121]]) gZ) ?_;refine gQ (qC 8 rfl rfl (qU 0 (gAq 5000 (gK.mk ap aq ar) [[120],[121]] 2 jd) gZ)) ?_;refine gQ (gAo 0 (List.getElem?_eq_some_iff.1 f9).1 gZ) ?_;refine gQ (gA6 gZ) ?_;refine gQ (gA7 [(.s cw),(.sl 1 (gT cx))] [] (.st [.i .i64 d9,.s ea,.s eb,.i .i64 ec,.st [.i .i64 bl,.s bm,.sl 3 (gN bn)],.sl 9 (kQ ed),.sl 11 (uZ ee)]) (.st [.i .i64 b8,.s b9,.s ca,.i .i64 cb,.st [.i .i64 a6,.s a7,.sl 3 (gN a8)],.sl 9 (kQ cc),.sl 11 (uZ cd)]) (jG.mk cw cx (gY.mk d9 ea eb ec (gB.mk bl bm bn) ed ee)) (jG.mk cw cx (gY.mk b8 b9 ca cb (gB.mk a6 a7 a8) cc cd)) f9 gZ) ?_;refine jL ?_;exact pQ 1 [0,1,2,3,4,5,6,7,8]
         refine gQ (kT (T:=34) (us:=gT [[120],[121]]) gZ) ?_;refine uD (kF gZ) ?_ ?_
         ·refine gQ (qC 8 rfl rfl (qU 0 (gAq 5000 (gK.mk ap aq ar) [[120],[121]] 2 jd) gZ)) ?_;refine gQ (gAo 0 (List.getElem?_eq_some_iff.1 f9).1 gZ) ?_;refine gQ (gA6 gZ) ?_;refine gQ (gA7 [(.s cw),(.sl 1 (gT cx))] [] (.st [.i .i64 d9,.s ea,.s eb,.i .i64 ec,.st [.i .i64 bl,.s bm,.sl 3 (gN bn)],.sl 9 (kQ ed),.sl 11 (uZ ee)]) (.st [.i .i64 b8,.s b9,.s ca,.i .i64 cb,.st [.i .i64 a6,.s a7,.sl 3 (gN a8)],.sl 9 (kQ cc),.sl 11 (uZ cd)]) (jG.mk cw cx (gY.mk d9 ea eb ec (gB.mk bl bm bn) ed ee)) (jG.mk cw cx (gY.mk b8 b9 ca cb (gB.mk a6 a7 a8) cc cd)) f9 gZ) ?_;refine jL ?_;exact pQ 1 [0,1,2,3,4,5,6,7,8]
         refine gQ (qC 8 rfl rfl (qU 0 (gAq 5000 (gK.mk ap aq ar) [[120],[121]] 2 jd) gZ)) ?_;refine gQ (kF gZ) ?_;refine gQ (gAo 0 (List.getElem?_eq_some_iff.1 f9).1 gZ) ?_;refine gQ (gA6 gZ) ?_;refine gQ (gA7 [(.s cw),(.sl 1 (gT cx))] [] (.st [.i .i64 d9,.s ea,.s eb,.i .i64 ec,.st [.i .i64 bl,.s bm,.sl 3 (gN bn)],.sl 9 (kQ ed),.sl 11 (uZ ee)]) (.st [.i .i64 b8,.s b9,.s ca,.i .i64 cb,.st [.i .i64 a6,.s a7,.sl 3 (gN a8)],.sl 9 (kQ cc),.sl 11 (uZ cd)]) (jG.mk cw cx (gY.mk d9 ea eb ec (gB.mk bl bm bn) ed ee)) (jG.mk cw cx (gY.mk b8 b9 ca cb (gB.mk a6 a7 a8) cc cd)) f9 gZ) ?_;refine jL ?_;exact pQ 1 [0,1,2,3,4,5,6,7,8]
        refine goL ?_;refine gV 6 rfl rfl ?_;refine gV 4 rfl rfl ?_;refine jF ?_;obtain rfl:=Option.some.inj h;exact gB5 [.d (.st [.s ab,.sl 1 (gT [[97],[98]]),.st [.i .i64 cs,.s ct,.sl 3 (gN cu)],.sl 4 [],.b dh,.b cv,.st [.i .i64 de,.s df,.sl 3 (gN dg)],.sl 11 (mF ([(jG.mk [109] [[120]] (gY.mk ac ad ae ag (gB.mk f y aa) ah ai))].set 0 (jG.mk cw cx (gY.mk b8 b9 ca cb (gB.mk a6 a7 a8) cc cd))))])] [bCu g7 g8 g9] ⟨rfl,rfl⟩
       ·refine goC h ?_ ?_<;>intro nr h
        ·refine goL ?_;obtain⟨⟨ky,kz,k0⟩,lz,h⟩:=gJ h;refine jP (gI (gH0  lz)) ?_;refine gV 6 rfl rfl ?_;refine gV 4 rfl rfl ?_;refine jF ?_;obtain rfl:=Option.some.inj h;exact gB5 [.d (.st [.s ab,.sl 1 (gT [[97],[98]]),.st [.i .i64 cs,.s ct,.sl 3 (gN cu)],.sl 4 [],.b dh,.b cv,.st [.i .i64 ky,.s kz,.sl 3 (gN k0)],.sl 11 (mF [(jG.mk [109] [[120]] (gY.mk ac ad ae ag (gB.mk f y aa) ah ai))])])] [bCu ap aq ar] ⟨rfl,rfl⟩
        ·refine goC h ?_ ?_<;>intro ns h
         ·refine goL ?_;refine gC1 ?_;obtain⟨m1,hl,h⟩:=gJ h;obtain⟨m2,hl⟩:=gBm hl;obtain⟨gh,je,⟨f0,f1,f2,f3,⟨ew,ex,ey⟩,f4,f5⟩⟩:=m1;refine vP (gXh 0 (List.getElem?_eq_some_iff.1 hl).1) ?_;refine vP (gXi) ?_;refine gBv 8 rfl rfl ?_;refine gRj [(.s gh)] [(.st [.i .i64 f0,.s f1,.s f2,.i .i64 f3,.st [.i .i64 ew,.s ex,.sl 3 (gN ey)],.sl 9 (kQ f4),.sl 11 (uZ f5)])] (.sl 1 (gT je)) (.sl 1 []) (jG.mk gh je (gY.mk f0 f1 f2 f3 (gB.mk ew ex ey) f4 f5)) (jG.mk gh [] (gY.mk f0 f1 f2 f3 (gB.mk ew ex ey) f4 f5)) hl ?_;refine goL ?_;refine gV 6 rfl rfl ?_;refine gV 4 rfl rfl ?_;refine jF ?_;obtain rfl:=Option.some.inj h;exact gB5 [.d (.st [.s ab,.sl 1 (gT [[97],[98]]),.st [.i .i64 cs,.s ct,.sl 3 (gN cu)],.sl 4 [],.b dh,.b cv,.st [.i .i64 de,.s df,.sl 3 (gN dg)],.sl 11 (mF ([(jG.mk [109] [[120]] (gY.mk ac ad ae ag (gB.mk f y aa) ah ai))].set 0 (jG.mk gh [] (gY.mk f0 f1 f2 f3 (gB.mk ew ex ey) f4 f5))))])] [bCu ap aq ar] ⟨rfl,rfl⟩
         ·refine goS ?_;refine gV 6 rfl rfl ?_;refine gV 4 rfl rfl ?_;refine jF ?_;obtain rfl:=Option.some.inj h;exact gB5 [.d (.st [.s ab,.sl 1 (gT [[97],[98]]),.st [.i .i64 cs,.s ct,.sl 3 (gN cu)],.sl 4 [],.b dh,.b cv,.st [.i .i64 de,.s df,.sl 3 (gN dg)],.sl 11 (mF [(jG.mk [109] [[120]] (gY.mk ac ad ae ag (gB.mk f y aa) ah ai))])])] [bCu ap aq ar] ⟨rfl,rfl⟩
   ·refine goL ?_;refine uO (u:=(.s [97])) ?_;refine goL ?_;obtain⟨⟨cy,cz,c0⟩,l0,h⟩:=uK h;have sx78:=gCl [97];rw [l0] at sx78;refine jP (gI (sx78)) ?_;obtain⟨⟨bo,bp,bq⟩,l1,h⟩:=uK h;have sx79:=gCl [97];rw [l1] at sx79;refine uN (gI (sx79)) ?_;refine vP (jN TBd.h TZ.h rfl (by repeat constructor)) ?_;refine uO (u:=(.st [.s [111,114,100],.st [.i .i64 bo,.s bp,.sl 3 (gN bq)]])) ?_;refine goL ?_;obtain⟨⟨m3,⟨jf,jg,jh⟩⟩,l2,h⟩:=gJ h;refine mI 0 (wB (gK.mk gb gc gd) 3 l2) ?_;refine goL ?_;refine gS8 3 5 10 rfl rfl (by repeat constructor) (by repeat constructor) ?_;obtain⟨⟨ji,jj,jk,c1,di,dj,dk⟩,hb81,h⟩:=gJ h;refine wY ⟨[(0,.ptr 0 0),(2,.ptr 1 0),(3,.ptr 5 0)],[bCu ji jj jk,.box [.S [],.nilsl,.I 0,.S [],.nilsl,.nilsl,.B false,.B false,.I 0,.S [],.nilsl,.nilsl],.frz 9 1 0 (gT [[115,104,111,119],[101,113],[97,100,100]]),.frz 9 1 0 (gT [[120]]),.arr 103 11 0 (mF [(jG.mk [109] [[120]] (gY.mk ac ad ae ag (gB.mk f y aa) ah ai))]),.box [.S ab,.sl 6 0,.I cy,.S cz,.L 3 (gN c0),.sl 7 0,.B false,.B c1,.I di,.S dj,.L 3 (gN dk),.sl 4 0],.arr 9 1 0 (gT [[97]]),.arr 53 4 0 (kC [(gP.mk [111,114,100] (gB.mk bo bp bq))])],Tryz.f102.ntmps⟩ ?_ ?_
    ·refine mR (fun k1=>?_) (fun k1=>?_)
     ·replace hb81:=kU k1 hb81;refine goL ?_;obtain⟨⟨⟨jl,jm,jn⟩,⟨jo,jp,jq⟩⟩,l3,hb81⟩:=gJ hb81;refine gBz [0,6] (gUs 5000 (gK.mk jf jg jh) [[97]] 1 0 l3) ?_;rintro _ _ ⟨rfl,rfl⟩;show VO _ _ _ _ ⟨(_,.d (.st [.i .i64 jl,.s jm,.sl 3 (gN jn)]))::_,[bCu jo jp jq,.box [.S [],.nilsl,.I 0,.S [],.nilsl,.nilsl,.B false,.B false,.I 0,.S [],.nilsl,.nilsl],.frz 9 1 0 (gT [[115,104,111,119],[101,113],[97,100,100]]),.frz 9 1 0 (gT [[120]]),.arr 103 11 0 (mF [(jG.mk [109] [[120]] (gY.mk ac ad ae ag (gB.mk f y aa) ah ai))]),.box [.S ab,.sl 6 0,.I cy,.S cz,.L 3 (gN c0),.sl 7 0,.B false,.B true,.I 0,.S [],.L 3 [],.sl 4 0],.arr 9 1 0 (gT [[97]]),.arr 53 4 0 (kC [(gP.mk [111,114,100] (gB.mk bo bp bq))])],_⟩ _;refine goL ?_;cases hb81;exact eJ
     ·replace hb81:=kV k1 hb81;refine vN ?_;cases hb81;exact eJ
    refine goL ?_;obtain⟨⟨dl,⟨jr,jt,ju⟩⟩,l4,h⟩:=gJ h;refine mI 0 (wB (gK.mk ji jj jk) 4 l4) ?_;refine goL ?_;obtain⟨⟨m4,⟨au,av,aw⟩⟩,l5,h⟩:=gJ h;refine mI 0 (mH (gK.mk jr jt ju) 12 l5) ?_;refine goL ?_;refine jA ?_;refine goC h ?_ ?_<;>intro nt h
    ·refine goL ?_;obtain⟨⟨⟨jv,jw,jx⟩,⟨jy,jz,j0⟩⟩,l6,h⟩:=gJ h;refine mI 0 (zU (gK.mk au av aw) 2 l6) ?_;refine goL ?_;refine gV 6 rfl rfl ?_;refine gV 7 rfl rfl ?_;refine gV 4 rfl rfl ?_;refine jF ?_;obtain rfl:=Option.some.inj h;exact gB5 [.d (.st [.s ab,.sl 1 (gT [[97]]),.st [.i .i64 jv,.s jw,.sl 3 (gN jx)],.sl 4 (kC [(gP.mk [111,114,100] (gB.mk bo bp bq))]),.b dl,.b c1,.st [.i .i64 di,.s dj,.sl 3 (gN dk)],.sl 11 (mF [(jG.mk [109] [[120]] (gY.mk ac ad ae ag (gB.mk f y aa) ah ai))])])] [bCu jy jz j0] ⟨rfl,rfl⟩
    ·refine goC h ?_ ?_<;>intro nu h
     ·obtain⟨⟨fn,⟨ha,hb,hc⟩⟩,j1,h⟩:=gJ h;obtain⟨kf,h⟩:=pU h;refine qY (P:=Tryz.prog) Mix.h (.q 0 (.q 2 (.h 1 (hcT 3 (hcT 4 (hcT 5 (hcT 6 (.q 7 (hzT 8)))))) (hcT 3 (.h 1 (hcT 4 (hcT 5 (hcT 6 (.q 7 (hzT 8))))) (hcT 4 (.h 1 (hcT 5 (hcT 6 (.q 7 (hzT 8)))) (hcT 5 (hcT 1 (hcT 6 (.q 7 (hzT 8)))))))))))) ⟨[(2,.ptr 1 0),(3,.ptr 5 0)],[bCu ha hb hc,.box [.S [],.nilsl,.I 0,.S [],.nilsl,.nilsl,.B false,.B false,.I 0,.S [],.nilsl,.nilsl],.frz 9 1 0 (gT [[115,104,111,119],[101,113],[97,100,100]]),.frz 9 1 0 (gT [[120]]),.arr 103 11 0 (mF [(jG.mk [109] [[120]] (gY.mk ac ad ae ag (gB.mk f y aa) ah ai))]),.box [.S ab,.sl 6 (0+1),.I cy,.S cz,.L 3 (gN c0),.sl 7 0,.B dl,.B c1,.I di,.S dj,.L 3 (gN dk),.sl 4 0],.arr 9 1 (0+1) (gT ([[97]]++[fn])),.arr 53 4 0 (kC [(gP.mk [111,114,100] (gB.mk bo bp bq))]),.frz 9 1 0 (gT [[97],[99]]),.arr 9 1 0 (gT [fn])],Tryz.f102.ntmps⟩ (by kernel_rfl) ?_ ?_
      ·refine mU ?_;refine uD (kF gZ) ?_ ?_
       ·refine gQ (kT (T:=34) (us:=gT [[97],[99]]) gZ) ?_;refine gQ (qC 8 rfl rfl (qU 0 (kZ (gK.mk au av aw) [[97],[99]] j1) gZ)) ?_;refine gQ (kT (T:=34) (us:=gT [fn]) gZ) ?_;refine gQ (kN (T:=34) kf gZ) ?_;refine mU ?_;refine jL ?_;exact pQ 1 [0,1,2,3,4,5,6,7,8,9]
       refine gQ (kT (T:=34) (us:=gT [[97],[99]]) gZ) ?_;refine uD (kF gZ) ?_ ?_
       ·refine gQ (qC 8 rfl rfl (qU 0 (kZ (gK.mk au av aw) [[97],[99]] j1) gZ)) ?_;refine gQ (kT (T:=34) (us:=gT [fn]) gZ) ?_;refine gQ (kN (T:=34) kf gZ) ?_;refine mU ?_;refine jL ?_;exact pQ 1 [0,1,2,3,4,5,6,7,8,9]
       refine gQ (qC 8 rfl rfl (qU 0 (kZ (gK.mk au av aw) [[97],[99]] j1) gZ)) ?_;refine uD (kF gZ) ?_ ?_
       ·refine gQ (kT (T:=34) (us:=gT [fn]) gZ) ?_;refine gQ (kN (T:=34) kf gZ) ?_;refine mU ?_;refine jL ?_;exact pQ 1 [0,1,2,3,4,5,6,7,8,9]
       refine gQ (kT (T:=34) (us:=gT [fn]) gZ) ?_;refine gQ (kF gZ) ?_;refine gQ (kN (T:=34) kf gZ) ?_;refine mU ?_;refine jL ?_;exact pQ 1 [0,1,2,3,4,5,6,7,8,9]
      refine goL ?_;refine gV 6 rfl rfl ?_;refine gV 7 rfl rfl ?_;refine gV 4 rfl rfl ?_;refine jF ?_;obtain rfl:=Option.some.inj h;exact gB5 [.d (.st [.s ab,.sl 1 (gT ([[97]]++[fn])),.st [.i .i64 cy,.s cz,.sl 3 (gN c0)],.sl 4 (kC [(gP.mk [111,114,100] (gB.mk bo bp bq))]),.b dl,.b c1,.st [.i .i64 di,.s dj,.sl 3 (gN dk)],.sl 11 (mF [(jG.mk [109] [[120]] (gY.mk ac ad ae ag (gB.mk f y aa) ah ai))])])] [bCu ha hb hc] ⟨rfl,rfl⟩
     ·refine goC h ?_ ?_<;>intro nv h
      ·obtain⟨⟨⟨ef,eg,eh⟩,⟨hd,he,hf⟩⟩,km,h⟩:=gJ h;obtain⟨k2,h⟩:=pU h;refine qY (P:=Tryz.prog) Mix.h (.q 0 (.q 2 (.h 1 (hcT 3 (.q 4 (hcT 5 (hcT 6 (.q 7 (hzT 8)))))) (hcT 3 (.q 4 (.h 1 (hcT 5 (hcT 6 (.q 7 (hzT 8)))) (hcT 5 (hcT 1 (hcT 6 (.q 7 (hzT 8))))))))))) ⟨[(2,.ptr 1 0),(3,.ptr 5 0)],[bCu hd he hf,.box [.S [],.nilsl,.I 0,.S [],.nilsl,.nilsl,.B false,.B false,.I 0,.S [],.nilsl,.nilsl],.frz 9 1 0 (gT [[115,104,111,119],[101,113],[97,100,100]]),.frz 9 1 0 (gT [[120]]),.arr 103 11 0 (mF [(jG.mk [109] [[120]] (gY.mk ac ad ae ag (gB.mk f y aa) ah ai))]),.box [.S ab,.sl 6 0,.I cy,.S cz,.L 3 (gN c0),.sl 7 (0+1),.B dl,.B c1,.I di,.S dj,.L 3 (gN dk),.sl 4 0],.arr 9 1 0 (gT [[97]]),.arr 53 4 (0+1) (kC ([(gP.mk [111,114,100] (gB.mk bo bp bq))]++[(gP.mk [101,113] (gB.mk ef eg eh))])),.arr 53 4 0 (kC [(gP.mk [101,113] (gB.mk ef eg eh))])],Tryz.f102.ntmps⟩ (by kernel_rfl) ?_ ?_
       ·refine mU ?_;refine uD (kF gZ) ?_ ?_
        ·refine gQ (qU 0 (zU (gK.mk au av aw) 1 km) gZ) ?_;refine mU ?_;refine gQ (kT (T:=38) (us:=kC [(gP.mk [101,113] (gB.mk ef eg eh))]) gZ) ?_;refine gQ (kN (T:=38) k2 gZ) ?_;refine mU ?_;refine jL ?_;exact pQ 1 [0,1,2,3,4,5,6,7,8]
        refine gQ (qU 0 (zU (gK.mk au av aw) 1 km) gZ) ?_;refine mU ?_;refine uD (kF gZ) ?_ ?_
        ·refine gQ (kT (T:=38) (us:=kC [(gP.mk [101,113] (gB.mk ef eg eh))]) gZ) ?_;refine gQ (kN (T:=38) k2 gZ) ?_;refine mU ?_;refine jL ?_;exact pQ 1 [0,1,2,3,4,5,6,7,8]
        refine gQ (kT (T:=38) (us:=kC [(gP.mk [101,113] (gB.mk ef eg eh))]) gZ) ?_;refine gQ (kF gZ) ?_;refine gQ (kN (T:=38) k2 gZ) ?_;refine mU ?_;refine jL ?_;exact pQ 1 [0,1,2,3,4,5,6,7,8]
       refine goL ?_;refine gV 6 rfl rfl ?_;refine gV 7 rfl rfl ?_;refine gV 4 rfl rfl ?_;refine jF ?_;obtain rfl:=Option.some.inj h;exact gB5 [.d (.st [.s ab,.sl 1 (gT [[97]]),.st [.i .i64 cy,.s cz,.sl 3 (gN c0)],.sl 4 (kC ([(gP.mk [111,114,100] (gB.mk bo bp bq))]++[(gP.mk [101,113] (gB.mk ef eg eh))])),.b dl,.b c1,.st [.i .i64 di,.s dj,.sl 3 (gN dk)],.sl 11 (mF [(jG.mk [109] [[120]] (gY.mk ac ad ae ag (gB.mk f y aa) ah ai))])])] [bCu hd he hf] ⟨rfl,rfl⟩
      ·refine goC h ?_ ?_<;>intro nw h
       ·obtain⟨⟨⟨ce,cf,cg,ch,⟨a9,ba,bb⟩,ci,cj⟩,⟨hg,hh,hi⟩⟩,j2,h⟩:=gJ h;obtain⟨m5,ga,h⟩:=gJ h;obtain⟨m6,ga⟩:=gBm ga;obtain⟨c2,c3,⟨ei,ej,ek,el,⟨br,bt,bu⟩,em,en⟩⟩:=m5;refine qY (P:=Tryz.prog) Mix.h (.q 0 (.q 2 (.h 1 (hcT 3 (hcT 4 (hcT 5 (hcT 6 (hzT 7))))) (hcT 3 (.h 1 (hcT 4 (hcT 5 (hcT 6 (hzT 7)))) (hcT 4 (hcT 1 (hcT 5 (hcT 6 (hzT 7)))))))))) ⟨[(2,.ptr 1 0),(3,.ptr 5 0)],[bCu hg hh hi,.box [.S [],.nilsl,.I 0,.S [],.nilsl,.nilsl,.B false,.B false,.I 0,.S [],.nilsl,.nilsl],.frz 9 1 0 (gT [[115,104,111,119],[101,113],[97,100,100]]),.frz 9 1 0 (gT [[120]]),.arr 103 11 0 (mF ([(jG.mk [109] [[120]] (gY.mk ac ad ae ag (gB.mk f y aa) ah ai))].set 0 (jG.mk c2 c3 (gY.mk ce cf cg ch (gB.mk a9 ba bb) ci cj)))),.box [.S ab,.sl 6 0,.I cy,.S cz,.L 3 (gN c0),.sl 7 0,.B dl,.B c1,.I di,.S dj,.L 3 (gN dk),.sl 4 0],.arr 9 1 0 (gT [[97]]),.arr 53 4 0 (kC [(gP.mk [111,114,100] (gB.mk bo bp bq))]),.frz 9 1 0 (gT [[120],[121]])],Tryz.f102.ntmps⟩ (by kernel_rfl) ?_ ?_
        ·refine mU ?_;refine uD (kF gZ) ?_ ?_
         ·refine gQ (kT (T:=34) (us:=gT [[120],[121]]) gZ) ?_;refine gQ (qC 8 rfl rfl (qU 0 (gAq 5000 (gK.mk au av aw) [[120],[121]] 2 j2) gZ)) ?_;refine gQ (gAo 0 (List.getElem?_eq_some_iff.1 ga).1 gZ) ?_;refine gQ (gA6 gZ) ?_;refine gQ (gA7 [(.s c2),(.sl 1 (gT c3))] [] (.st [.i .i64 ei,.s ej,.s ek,.i .i64 el,.st [.i .i64 br,.s bt,.sl 3 (gN bu)],.sl 9 (kQ em),.sl 11 (uZ en)]) (.st [.i .i64 ce,.s cf,.s cg,.i .i64 ch,.st [.i .i64 a9,.s ba,.sl 3 (gN bb)],.sl 9 (kQ ci),.sl 11 (uZ cj)]) (jG.mk c2 c3 (gY.mk ei ej ek el (gB.mk br bt bu) em en)) (jG.mk c2 c3 (gY.mk ce cf cg ch (gB.mk a9 ba bb) ci cj)) ga gZ) ?_;refine jL ?_;exact pQ 1 [0,1,2,3,4,5,6,7,8]
         refine gQ (kT (T:=34) (us:=gT [[120],[121]]) gZ) ?_;refine uD (kF gZ) ?_ ?_
         ·refine gQ (qC 8 rfl rfl (qU 0 (gAq 5000 (gK.mk au av aw) [[120],[121]] 2 j2) gZ)) ?_;refine gQ (gAo 0 (List.getElem?_eq_some_iff.1 ga).1 gZ) ?_;refine gQ (gA6 gZ) ?_;refine gQ (gA7 [(.s c2),(.sl 1 (gT c3))] [] (.st [.i .i64 ei,.s ej,.s ek,.i .i64 el,.st [.i .i64 br,.s bt,.sl 3 (gN bu)],.sl 9 (kQ em),.sl 11 (uZ en)]) (.st [.i .i64 ce,.s cf,.s cg,.i .i64 ch,.st [.i .i64 a9,.s ba,.sl 3 (gN bb)],.sl 9 (kQ ci),.sl 11 (uZ cj)]) (jG.mk c2 c3 (gY.mk ei ej ek el (gB.mk br bt bu) em en)) (jG.mk c2 c3 (gY.mk ce cf cg ch (gB.mk a9 ba bb) ci cj)) ga gZ) ?_;refine jL ?_;exact pQ 1 [0,1,2,3,4,5,6,7,8]
         refine gQ (qC 8 rfl rfl (qU 0 (gAq 5000 (gK.mk au av aw) [[120],[121]] 2 j2) gZ)) ?_;refine gQ (kF gZ) ?_;refine gQ (gAo 0 (List.getElem?_eq_some_iff.1 ga).1 gZ) ?_;refine gQ (gA6 gZ) ?_;refine gQ (gA7 [(.s c2),(.sl 1 (gT c3))] [] (.st [.i .i64 ei,.s ej,.s ek,.i .i64 el,.st [.i .i64 br,.s bt,.sl 3 (gN bu)],.sl 9 (kQ em),.sl 11 (uZ en)]) (.st [.i .i64 ce,.s cf,.s cg,.i .i64 ch,.st [.i .i64 a9,.s ba,.sl 3 (gN bb)],.sl 9 (kQ ci),.sl 11 (uZ cj)]) (jG.mk c2 c3 (gY.mk ei ej ek el (gB.mk br bt bu) em en)) (jG.mk c2 c3 (gY.mk ce cf cg ch (gB.mk a9 ba bb) ci cj)) ga gZ) ?_;refine jL ?_;exact pQ 1 [0,1,2,3,4,5,6,7,8]
        refine goL ?_;refine gV 6 rfl rfl ?_;refine gV 7 rfl rfl ?_;refine gV 4 rfl rfl ?_;refine jF ?_;obtain rfl:=Option.some.inj h;exact gB5 [.d (.st [.s ab,.sl 1 (gT [[97]]),.st [.i .i64 cy,.s cz,.sl 3 (gN c0)],.sl 4 (kC [(gP.mk [111,114,100] (gB.mk bo bp bq))]),.b dl,.b c1,.st [.i .i64 di,.s dj,.sl 3 (gN dk)],.sl 11 (mF ([(jG.mk [109] [[120]] (gY.mk ac ad ae ag (gB.mk f y aa) ah ai))].set 0 (jG.mk c2 c3 (gY.mk ce cf cg ch (gB.mk a9 ba bb) ci cj))))])] [bCu hg hh hi] ⟨rfl,rfl⟩
       ·refine goC h ?_ ?_<;>intro nx h
        ·refine goL ?_;obtain⟨⟨k3,k4,k5⟩,l7,h⟩:=gJ h;refine jP (gI (gH0  l7)) ?_;refine gV 6 rfl rfl ?_;refine gV 7 rfl rfl ?_;refine gV 4 rfl rfl ?_;refine jF ?_;obtain rfl:=Option.some.inj h;exact gB5 [.d (.st [.s ab,.sl 1 (gT [[97]]),.st [.i .i64 cy,.s cz,.sl 3 (gN c0)],.sl 4 (kC [(gP.mk [111,114,100] (gB.mk bo bp bq))]),.b dl,.b c1,.st [.i .i64 k3,.s k4,.sl 3 (gN k5)],.sl 11 (mF [(jG.mk [109] [[120]] (gY.mk ac ad ae ag (gB.mk f y aa) ah ai))])])] [bCu au av aw] ⟨rfl,rfl⟩
        ·refine goC h ?_ ?_<;>intro ny h
         ·refine goL ?_;refine gC1 ?_;obtain⟨l8,gi,h⟩:=gJ h;obtain⟨l9,gi⟩:=gBm gi;obtain⟨ge,hm,⟨e0,e1,e2,e3,⟨c4,c6,c7⟩,e4,e5⟩⟩:=l8;refine vP (gXh 0 (List.getElem?_eq_some_iff.1 gi).1) ?_;refine vP (gXi) ?_;refine gBv 8 rfl rfl ?_;refine gRj [(.s ge)] [(.st [.i .i64 e0,.s e1,.s e2,.i .i64 e3,.st [.i .i64 c4,.s c6,.sl 3 (gN c7)],.sl 9 (kQ e4),.sl 11 (uZ e5)])] (.sl 1 (gT hm)) (.sl 1 []) (jG.mk ge hm (gY.mk e0 e1 e2 e3 (gB.mk c4 c6 c7) e4 e5)) (jG.mk ge [] (gY.mk e0 e1 e2 e3 (gB.mk c4 c6 c7) e4 e5)) gi ?_;refine goL ?_;refine gV 6 rfl rfl ?_;refine gV 7 rfl rfl ?_;refine gV 4 rfl rfl ?_;refine jF ?_;obtain rfl:=Option.some.inj h;exact gB5 [.d (.st [.s ab,.sl 1 (gT [[97]]),.st [.i .i64 cy,.s cz,.sl 3 (gN c0)],.sl 4 (kC [(gP.mk [111,114,100] (gB.mk bo bp bq))]),.b dl,.b c1,.st [.i .i64 di,.s dj,.sl 3 (gN dk)],.sl 11 (mF ([(jG.mk [109] [[120]] (gY.mk ac ad ae ag (gB.mk f y aa) ah ai))].set 0 (jG.mk ge [] (gY.mk e0 e1 e2 e3 (gB.mk c4 c6 c7) e4 e5))))])] [bCu au av aw] ⟨rfl,rfl⟩
         ·refine goS ?_;refine gV 6 rfl rfl ?_;refine gV 7 rfl rfl ?_;refine gV 4 rfl rfl ?_;refine jF ?_;obtain rfl:=Option.some.inj h;exact gB5 [.d (.st [.s ab,.sl 1 (gT [[97]]),.st [.i .i64 cy,.s cz,.sl 3 (gN c0)],.sl 4 (kC [(gP.mk [111,114,100] (gB.mk bo bp bq))]),.b dl,.b c1,.st [.i .i64 di,.s dj,.sl 3 (gN dk)],.sl 11 (mF [(jG.mk [109] [[120]] (gY.mk ac ad ae ag (gB.mk f y aa) ah ai))])])] [bCu au av aw] ⟨rfl,rfl⟩
end Go.Proofs.YtfpdlnkkcnmebaaGreat
