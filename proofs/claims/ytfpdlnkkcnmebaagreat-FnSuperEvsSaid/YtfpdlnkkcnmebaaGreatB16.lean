import Derived.Test.YtfpdlnkkcnmebaaGreatB10
import Derived.Test.YtfpdlnkkcnmebaaGreatB12
import Derived.Test.YtfpdlnkkcnmebaaGreatB13
import Derived.Test.YtfpdlnkkcnmebaaGreatB14
set_option maxHeartbeats 4000000
set_option linter.unusedVariables false
set_option linter.unusedSimpArgs false
set_option linter.unusedSectionVars false
namespace Go.Proofs.YtfpdlnkkcnmebaaGreat
open Go Go.Eng
attribute [local irreducible] V VO VQ VY Quiet QR jF mJ Rng qI qJ qB
def gAj(x1:Int × gN):Nat→LB→Int→Int→(List mE)→(List kP)→(List gY)→(List kI)→Int→Option (jX × gN)
 | 0,y2,y3,y4,y5,y7,y9,c,q=>none
 | ai+1,y2,y3,y4,y5,y7,y9,c,q=>(cnd (decide (q < x1.1)) (
bnd (mX (gN.mk y2 y3 y4) 4) fun f=>
(cnd (f.1==0) (
bnd (gH7 f.2) fun y=>
gd (y5.length+[y.1].length≤4294967296) (
gAj x1 ai y.2.b y.2.i y.2.h (y5++[y.1]) y7 y9 c (IntKind.i64.wrap (q+1)))) (
(cnd (f.1==1) (
bnd (gJr f.2) fun aa=>
gd (y7.length+[aa.1].length≤4294967296) (
gAj x1 ai aa.2.b aa.2.i aa.2.h y5 (y7++[aa.1]) y9 c (IntKind.i64.wrap (q+1)))) (
(cnd (f.1==2) (
bnd (gJs f.2) fun ab=>
gd (y9.length+[ab.1].length≤4294967296) (
gAj x1 ai ab.2.b ab.2.i ab.2.h y5 y7 (y9++[ab.1]) c (IntKind.i64.wrap (q+1)))) (
bnd (gPb f.2) fun ac=>
gd (c.length+[ac.1].length≤4294967296) (
gAj x1 ai ac.2.b ac.2.i ac.2.h y5 y7 y9 (c++[ac.1]) (IntKind.i64.wrap (q+1)))))))))) (
bnd (mX (gN.mk y2 y3 y4) 10) fun ad=>
(cnd (ad.1==0) (
bnd (qE ad.2 [[],[99,111,114,101]]) fun al=>
(some ((jX.mk al.1 [[99,111,114,101]] y5 y7 y9 c),al.2))) (
(cnd (ad.1==1) (
bnd (qE ad.2 [[99,111,114,101],[113],[112]]) fun aj=>
gd (([[99,111,114,101]]:LS).length+[aj.1].length≤4294967296) (
(some ((jX.mk [112] ([[99,111,114,101]]++[aj.1]) y5 y7 y9 c),aj.2)))) (
(some ((jX.mk [112] [[99,111,114,101]] y5 y7 y9 c),ad.2))))))))
def gOj(c:gN)(q:Nat):Option (jX × gN):=
bnd (mX c 5) fun f=>
gAj f q f.2.b f.2.i f.2.h [] [] [] [] 0
theorem gSl(c:gN){n0:Nat}{r:jX × gN}(h:gOj c n0=some r):Go.Eng.Spec Tryz.prog 69 [.ptr 0 0] [bCu c.b c.i c.h] (fun sv Lo=>sv=.d (gD8 r.1)∧Lo=[bCu r.2.b r.2.i r.2.h]):=by
 obtain⟨c0,c1,c2⟩:=c;unfold gOj at h;refine kS 1 Tryz.func69 rfl (by kernel_rfl) rfl rfl fun A _=>?_;refine goL ?_;refine yF ([99,111,114,101]:LB) ?_;refine gAc (jU TBd.h TZ.h rfl (by repeat constructor)) ?_;obtain⟨⟨br,⟨cf,cg,ch⟩⟩,c3,h⟩:=gJ h;refine mZ 0 (pU (gN.mk c0 c1 c2) 5 c3) ?_;refine goL ?_;refine noB ?_;refine uO 46 5 3 2 rfl rfl (by repeat constructor) (by repeat constructor) (by repeat constructor) (by repeat constructor) ?_;show V _ _ _ _ _;refine uO 171 3 3 3 rfl rfl (by repeat constructor) (by repeat constructor) (by repeat constructor) (by repeat constructor) ?_;show V _ _ _ _ _;refine uO 41 12 3 4 rfl rfl (by repeat constructor) (by repeat constructor) (by repeat constructor) (by repeat constructor) ?_;show V _ _ _ _ _;refine uO 176 16 3 5 rfl rfl (by repeat constructor) (by repeat constructor) (by repeat constructor) (by repeat constructor) ?_;show V _ _ _ _ _;refine hFi (fun(bp:Nat)(y2:LB)(y3:Int)(y4:Int)(y5:List mE)(y7:List kP)(y9:List gY)(bn:List kI)(bo:Int)(v6:Nat)(v8:Nat)(bl:Nat)(bm:Nat)=>⟨[(0,.ptr 0 0),(2,.ptr 1 0),(3,.ptr 3 0),(4,.I br),(5,.I bo)],[bCu y2 y3 y4,.box [.S [],.nilsl,.nilsl,.nilsl,.nilsl,.nilsl],.own 9 1 0 (gP [[99,111,114,101]]),.box [.d (.s [112]),.sl 2 0,.sl 4 v6,.sl 5 v8,.sl 6 bl,.sl 7 bm],.arr 46 5 v6 (uY y5),.arr 171 3 v8 (pG y7),.arr 41 12 bl (pI y9),.arr 176 16 bm (pJ bn)],Tryz.f69.ntmps⟩) (fun bp y2 y3 y4 y5 y7 y9 bn bo v6 v8 bl bm=>gAj (br,(gN.mk cf cg ch)) bp y2 y3 y4 y5 y7 y9 bn bo=some r) (fun bp y2 y3 y4 y5 y7 y9 bn bo v6 v8 bl bm=>bp) n0 cf cg ch [] [] [] [] 0 0 0 0 0 eJ h ?_;rintro bp y2 y3 y4 y5 y7 y9 bn bo v6 v8 bl bm h;rcases bp with _ | bp
 ·cases h
 rw [gAj.eq_2] at h;refine goC h ?_ ?_<;>intro c7 h
 ·refine noS ?_;refine kH (jE ?_);refine goL ?_;obtain⟨⟨c4,⟨ar,au,av⟩⟩,cx,h⟩:=gJ h;refine mZ 0 (pU (gN.mk y2 y3 y4) 4 cx) ?_;refine goL ?_;refine jE ?_;refine goC h ?_ ?_<;>intro c8 h
  ·obtain⟨⟨⟨aw,ax,ay,a0,a3⟩,⟨b0,b1,b2⟩⟩,cm,h⟩:=gJ h;obtain⟨ci,h⟩:=pO h;refine qQ (P:=Tryz.prog) Mix.h (.q 2 (.h 0 (.h 1 (.h 3 (.h 4 (.h 5 (.q 6 (.h 7 .nil .nil)) .nil) .nil) .nil) (.h 3 (.h 1 (.h 4 (.h 5 (.q 6 (.h 7 .nil .nil)) .nil) .nil) (.h 4 (.h 1 (.h 5 (.q 6 (.h 7 .nil .nil)) .nil) .nil) .nil)) .nil)) (.h 3 (.h 0 (.h 1 (.h 4 (.h 5 (.q 6 (.h 7 .nil .nil)) .nil) .nil) (.h 4 (.h 1 (.h 5 (.q 6 (.h 7 .nil .nil)) .nil) .nil) .nil)) (.h 4 (.h 0 (.h 1 (.h 5 (.q 6 (.h 7 .nil .nil)) .nil) .nil) .nil) .nil)) .nil))) ⟨[(0,.ptr 0 0),(2,.ptr 1 0),(3,.ptr 3 0),(4,.I br),(5,.I bo)],[bCu b0 b1 b2,.box [.S [],.nilsl,.nilsl,.nilsl,.nilsl,.nilsl],.own 9 1 0 (gP [[99,111,114,101]]),.box [.d (.s [112]),.sl 2 0,.sl 4 (v6+1),.sl 5 v8,.sl 6 bl,.sl 7 bm],.arr 46 5 (v6+1) (uY (y5++[(mE.mk aw ax ay a0 a3)])),.arr 171 3 v8 (pG y7),.arr 41 12 bl (pI y9),.arr 176 16 bm (pJ bn),.arr 46 5 0 (uY [(mE.mk aw ax ay a0 a3)])],Tryz.f69.ntmps⟩ (by kernel_rfl) ?_ ?_
   ·refine goT ?_;refine pR (jJ gQ) ?_ ?_
    ·refine pR (jJ gQ) ?_ ?_
     ·refine gH (mH 0 (gM5 (gN.mk ar au av) cm) gQ) ?_;refine gH (jT (T:=86) (us:=uY [(mE.mk aw ax ay a0 a3)]) gQ) ?_;refine gH (jR (T:=86) ci gQ) ?_;refine goT ?_;refine jB ?_;exact mK 1 [0,1,2,3,4,5,6,7,8]
     refine gH (mH 0 (gM5 (gN.mk ar au av) cm) gQ) ?_;refine pR (jJ gQ) ?_ ?_
     ·refine gH (jT (T:=86) (us:=uY [(mE.mk aw ax ay a0 a3)]) gQ) ?_;refine gH (jR (T:=86) ci gQ) ?_;refine goT ?_;refine jB ?_;exact mK 1 [0,1,2,3,4,5,6,7,8]
     refine gH (jT (T:=86) (us:=uY [(mE.mk aw ax ay a0 a3)]) gQ) ?_;refine gH (jJ gQ) ?_;refine gH (jR (T:=86) ci gQ) ?_;refine goT ?_;refine jB ?_;exact mK 1 [0,1,2,3,4,5,6,7,8]
    refine gH (mH 0 (gM5 (gN.mk ar au av) cm) gQ) ?_;refine pR (jJ gQ) ?_ ?_
    ·refine pR (jJ gQ) ?_ ?_
     ·refine gH (jT (T:=86) (us:=uY [(mE.mk aw ax ay a0 a3)]) gQ) ?_;refine gH (jR (T:=86) ci gQ) ?_;refine goT ?_;refine jB ?_;exact mK 1 [0,1,2,3,4,5,6,7,8]
     refine gH (jT (T:=86) (us:=uY [(mE.mk aw ax ay a0 a3)]) gQ) ?_;refine gH (jJ gQ) ?_;refine gH (jR (T:=86) ci gQ) ?_;refine goT ?_;refine jB ?_;exact mK 1 [0,1,2,3,4,5,6,7,8]
    refine gH (jT (T:=86) (us:=uY [(mE.mk aw ax ay a0 a3)]) gQ) ?_;refine gH (jJ gQ) ?_;refine gH (jJ gQ) ?_;refine gH (jR (T:=86) ci gQ) ?_;refine goT ?_;refine jB ?_;exact mK 1 [0,1,2,3,4,5,6,7,8]
   refine goL ?_;refine jK (pV) ?_;exact⟨bp,b0,b1,b2,(y5++[(mE.mk aw ax ay a0 a3)]),y7,y9,bn,(IntKind.i64.wrap (bo+1)),(v6+1),v8,bl,bm,h,Nat.lt_succ_self _,eJ⟩
  ·refine goC h ?_ ?_<;>intro c9 h
   ·obtain⟨⟨⟨a4,a5,a6⟩,⟨b3,b4,b5⟩⟩,cn,h⟩:=gJ h;obtain⟨cj,h⟩:=pO h;refine qQ (P:=Tryz.prog) Mix.h (.q 2 (.h 0 (.h 1 (.h 3 (.h 4 (.h 5 (.q 6 (.h 7 .nil .nil)) .nil) .nil) .nil) (.h 3 (.h 1 (.h 4 (.h 5 (.q 6 (.h 7 .nil .nil)) .nil) .nil) (.h 4 (.h 1 (.h 5 (.q 6 (.h 7 .nil .nil)) .nil) .nil) .nil)) .nil)) (.h 3 (.h 0 (.h 1 (.h 4 (.h 5 (.q 6 (.h 7 .nil .nil)) .nil) .nil) (.h 4 (.h 1 (.h 5 (.q 6 (.h 7 .nil .nil)) .nil) .nil) .nil)) (.h 4 (.h 0 (.h 1 (.h 5 (.q 6 (.h 7 .nil .nil)) .nil) .nil) .nil) .nil)) .nil))) ⟨[(0,.ptr 0 0),(2,.ptr 1 0),(3,.ptr 3 0),(4,.I br),(5,.I bo)],[bCu b3 b4 b5,.box [.S [],.nilsl,.nilsl,.nilsl,.nilsl,.nilsl],.own 9 1 0 (gP [[99,111,114,101]]),.box [.d (.s [112]),.sl 2 0,.sl 4 v6,.sl 5 (v8+1),.sl 6 bl,.sl 7 bm],.arr 46 5 v6 (uY y5),.arr 171 3 (v8+1) (pG (y7++[(kP.mk a4 a5 a6)])),.arr 41 12 bl (pI y9),.arr 176 16 bm (pJ bn),.arr 171 3 0 (pG [(kP.mk a4 a5 a6)])],Tryz.f69.ntmps⟩ (by kernel_rfl) ?_ ?_
    ·refine goT ?_;refine pR (jJ gQ) ?_ ?_
     ·refine pR (jJ gQ) ?_ ?_
      ·refine gH (mH 0 (gO9 (gN.mk ar au av) cn) gQ) ?_;refine gH (jT (T:=87) (us:=pG [(kP.mk a4 a5 a6)]) gQ) ?_;refine gH (jR (T:=87) cj gQ) ?_;refine goT ?_;refine jB ?_;exact mK 1 [0,1,2,3,4,5,6,7,8]
      refine gH (mH 0 (gO9 (gN.mk ar au av) cn) gQ) ?_;refine pR (jJ gQ) ?_ ?_
      ·refine gH (jT (T:=87) (us:=pG [(kP.mk a4 a5 a6)]) gQ) ?_;refine gH (jR (T:=87) cj gQ) ?_;refine goT ?_;refine jB ?_;exact mK 1 [0,1,2,3,4,5,6,7,8]
      refine gH (jT (T:=87) (us:=pG [(kP.mk a4 a5 a6)]) gQ) ?_;refine gH (jJ gQ) ?_;refine gH (jR (T:=87) cj gQ) ?_;refine goT ?_;refine jB ?_;exact mK 1 [0,1,2,3,4,5,6,7,8]
     refine gH (mH 0 (gO9 (gN.mk ar au av) cn) gQ) ?_;refine pR (jJ gQ) ?_ ?_
     ·refine pR (jJ gQ) ?_ ?_
      ·refine gH (jT (T:=87) (us:=pG [(kP.mk a4 a5 a6)]) gQ) ?_;refine gH (jR (T:=87) cj gQ) ?_;refine goT ?_;refine jB ?_;exact mK 1 [0,1,2,3,4,5,6,7,8]
      refine gH (jT (T:=87) (us:=pG [(kP.mk a4 a5 a6)]) gQ) ?_;refine gH (jJ gQ) ?_;refine gH (jR (T:=87) cj gQ) ?_;refine goT ?_;refine jB ?_;exact mK 1 [0,1,2,3,4,5,6,7,8]
     refine gH (jT (T:=87) (us:=pG [(kP.mk a4 a5 a6)]) gQ) ?_;refine gH (jJ gQ) ?_;refine gH (jJ gQ) ?_;refine gH (jR (T:=87) cj gQ) ?_;refine goT ?_;refine jB ?_;exact mK 1 [0,1,2,3,4,5,6,7,8]
    refine goL ?_;refine jK (pV) ?_;exact⟨bp,b3,b4,b5,y5,(y7++[(kP.mk a4 a5 a6)]),y9,bn,(IntKind.i64.wrap (bo+1)),v6,(v8+1),bl,bm,h,Nat.lt_succ_self _,eJ⟩
   ·refine goC h ?_ ?_<;>intro da h
    ·obtain⟨⟨⟨a7,a8,⟨ab,ac,ad⟩,a9,ba,bb,⟨ae,ag,ah⟩,bc⟩,⟨b6,b7,b8⟩⟩,co,h⟩:=gJ h;obtain⟨ck,h⟩:=pO h;refine qQ (P:=Tryz.prog) Mix.h (.q 2 (.h 0 (.h 1 (.h 3 (.h 4 (.h 5 (.q 6 (.h 7 .nil .nil)) .nil) .nil) .nil) (.h 3 (.h 1 (.h 4 (.h 5 (.q 6 (.h 7 .nil .nil)) .nil) .nil) (.h 4 (.h 1 (.h 5 (.q 6 (.h 7 .nil .nil)) .nil) .nil) .nil)) .nil)) (.h 3 (.h 0 (.h 1 (.h 4 (.h 5 (.q 6 (.h 7 .nil .nil)) .nil) .nil) (.h 4 (.h 1 (.h 5 (.q 6 (.h 7 .nil .nil)) .nil) .nil) .nil)) (.h 4 (.h 0 (.h 1 (.h 5 (.q 6 (.h 7 .nil .nil)) .nil) .nil) .nil) .nil)) .nil))) ⟨[(0,.ptr 0 0),(2,.ptr 1 0),(3,.ptr 3 0),(4,.I br),(5,.I bo)],[bCu b6 b7 b8,.box [.S [],.nilsl,.nilsl,.nilsl,.nilsl,.nilsl],.own 9 1 0 (gP [[99,111,114,101]]),.box [.d (.s [112]),.sl 2 0,.sl 4 v6,.sl 5 v8,.sl 6 (bl+1),.sl 7 bm],.arr 46 5 v6 (uY y5),.arr 171 3 v8 (pG y7),.arr 41 12 (bl+1) (pI (y9++[(gY.mk a7 a8 (gB.mk ab ac ad) a9 ba bb (gB.mk ae ag ah) bc)])),.arr 176 16 bm (pJ bn),.arr 41 12 0 (pI [(gY.mk a7 a8 (gB.mk ab ac ad) a9 ba bb (gB.mk ae ag ah) bc)])],Tryz.f69.ntmps⟩ (by kernel_rfl) ?_ ?_
     ·refine goT ?_;refine pR (jJ gQ) ?_ ?_
      ·refine pR (jJ gQ) ?_ ?_
       ·refine gH (mH 0 (gPa (gN.mk ar au av) co) gQ) ?_;refine gH (jT (T:=88) (us:=pI [(gY.mk a7 a8 (gB.mk ab ac ad) a9 ba bb (gB.mk ae ag ah) bc)]) gQ) ?_;refine gH (jR (T:=88) ck gQ) ?_;refine goT ?_;refine jB ?_;exact mK 1 [0,1,2,3,4,5,6,7,8]
       refine gH (mH 0 (gPa (gN.mk ar au av) co) gQ) ?_;refine pR (jJ gQ) ?_ ?_
       ·refine gH (jT (T:=88) (us:=pI [(gY.mk a7 a8 (gB.mk ab ac ad) a9 ba bb (gB.mk ae ag ah) bc)]) gQ) ?_;refine gH (jR (T:=88) ck gQ) ?_;refine goT ?_;refine jB ?_;exact mK 1 [0,1,2,3,4,5,6,7,8]
       refine gH (jT (T:=88) (us:=pI [(gY.mk a7 a8 (gB.mk ab ac ad) a9 ba bb (gB.mk ae ag ah) bc)]) gQ) ?_;refine gH (jJ gQ) ?_;refine gH (jR (T:=88) ck gQ) ?_;refine goT ?_;refine jB ?_;exact mK 1 [0,1,2,3,4,5,6,7,8]
      refine gH (mH 0 (gPa (gN.mk ar au av) co) gQ) ?_;refine pR (jJ gQ) ?_ ?_
      ·refine pR (jJ gQ) ?_ ?_
       ·refine gH (jT (T:=88) (us:=pI [(gY.mk a7 a8 (gB.mk ab ac ad) a9 ba bb (gB.mk ae ag ah) bc)]) gQ) ?_;refine gH (jR (T:=88) ck gQ) ?_;refine goT ?_;refine jB ?_;exact mK 1 [0,1,2,3,4,5,6,7,8]
       refine gH (jT (T:=88) (us:=pI [(gY.mk a7 a8 (gB.mk ab ac ad) a9 ba bb (gB.mk ae ag ah) bc)]) gQ) ?_;refine gH (jJ gQ) ?_;refine gH (jR (T:=88) ck gQ) ?_;refine goT ?_;refine jB ?_;exact mK 1 [0,1,2,3,4,5,6,7,8]
      refine gH (jT (T:=88) (us:=pI [(gY.mk a7 a8 (gB.mk ab ac ad) a9 ba bb (gB.mk ae ag ah) bc)]) gQ) ?_;refine gH (jJ gQ) ?_;refine gH (jJ gQ) ?_;refine gH (jR (T:=88) ck gQ) ?_;refine goT ?_;refine jB ?_;exact mK 1 [0,1,2,3,4,5,6,7,8]
     refine goL ?_;refine jK (pV) ?_;exact⟨bp,b6,b7,b8,y5,y7,(y9++[(gY.mk a7 a8 (gB.mk ab ac ad) a9 ba bb (gB.mk ae ag ah) bc)]),bn,(IntKind.i64.wrap (bo+1)),v6,v8,(bl+1),bm,h,Nat.lt_succ_self _,eJ⟩
    ·obtain⟨⟨⟨bd,be,bf,bg,⟨ai,aj,ak⟩,⟨al,am,an,ao,⟨f,y,aa⟩,ap,aq⟩⟩,⟨b9,ca,cb⟩⟩,cp,h⟩:=gJ h;obtain⟨cl,h⟩:=pO h;refine qQ (P:=Tryz.prog) Mix.h (.q 2 (.h 0 (.h 1 (.h 3 (.h 4 (.h 5 (.q 6 (.h 7 .nil .nil)) .nil) .nil) .nil) (.h 3 (.h 1 (.h 4 (.h 5 (.q 6 (.h 7 .nil .nil)) .nil) .nil) (.h 4 (.h 1 (.h 5 (.q 6 (.h 7 .nil .nil)) .nil) .nil) .nil)) .nil)) (.h 3 (.h 0 (.h 1 (.h 4 (.h 5 (.q 6 (.h 7 .nil .nil)) .nil) .nil) (.h 4 (.h 1 (.h 5 (.q 6 (.h 7 .nil .nil)) .nil) .nil) .nil)) (.h 4 (.h 0 (.h 1 (.h 5 (.q 6 (.h 7 .nil .nil)) .nil) .nil) .nil) .nil)) .nil))) ⟨[(0,.ptr 0 0),(2,.ptr 1 0),(3,.ptr 3 0),(4,.I br),(5,.I bo)],[bCu b9 ca cb,.box [.S [],.nilsl,.nilsl,.nilsl,.nilsl,.nilsl],.own 9 1 0 (gP [[99,111,114,101]]),.box [.d (.s [112]),.sl 2 0,.sl 4 v6,.sl 5 v8,.sl 6 bl,.sl 7 (bm+1)],.arr 46 5 v6 (uY y5),.arr 171 3 v8 (pG y7),.arr 41 12 bl (pI y9),.arr 176 16 (bm+1) (pJ (bn++[(kI.mk bd be bf bg (gB.mk ai aj ak) (gU.mk al am an ao (gB.mk f y aa) ap aq))])),.arr 176 16 0 (pJ [(kI.mk bd be bf bg (gB.mk ai aj ak) (gU.mk al am an ao (gB.mk f y aa) ap aq))])],Tryz.f69.ntmps⟩ (by kernel_rfl) ?_ ?_
     ·refine goT ?_;refine pR (jJ gQ) ?_ ?_
      ·refine pR (jJ gQ) ?_ ?_
       ·refine gH (mH 0 (gVy (gN.mk ar au av) cp) gQ) ?_;refine gH (jT (T:=89) (us:=pJ [(kI.mk bd be bf bg (gB.mk ai aj ak) (gU.mk al am an ao (gB.mk f y aa) ap aq))]) gQ) ?_;refine gH (jR (T:=89) cl gQ) ?_;refine goT ?_;refine jB ?_;exact mK 1 [0,1,2,3,4,5,6,7,8]
       refine gH (mH 0 (gVy (gN.mk ar au av) cp) gQ) ?_;refine pR (jJ gQ) ?_ ?_
       ·refine gH (jT (T:=89) (us:=pJ [(kI.mk bd be bf bg (gB.mk ai aj ak) (gU.mk al am an ao (gB.mk f y aa) ap aq))]) gQ) ?_;refine gH (jR (T:=89) cl gQ) ?_;refine goT ?_;refine jB ?_;exact mK 1 [0,1,2,3,4,5,6,7,8]
       refine gH (jT (T:=89) (us:=pJ [(kI.mk bd be bf bg (gB.mk ai aj ak) (gU.mk al am an ao (gB.mk f y aa) ap aq))]) gQ) ?_;refine gH (jJ gQ) ?_;refine gH (jR (T:=89) cl gQ) ?_;refine goT ?_;refine jB ?_;exact mK 1 [0,1,2,3,4,5,6,7,8]
      refine gH (mH 0 (gVy (gN.mk ar au av) cp) gQ) ?_;refine pR (jJ gQ) ?_ ?_
      ·refine pR (jJ gQ) ?_ ?_
       ·refine gH (jT (T:=89) (us:=pJ [(kI.mk bd be bf bg (gB.mk ai aj ak) (gU.mk al am an ao (gB.mk f y aa) ap aq))]) gQ) ?_;refine gH (jR (T:=89) cl gQ) ?_;refine goT ?_;refine jB ?_;exact mK 1 [0,1,2,3,4,5,6,7,8]
       refine gH (jT (T:=89) (us:=pJ [(kI.mk bd be bf bg (gB.mk ai aj ak) (gU.mk al am an ao (gB.mk f y aa) ap aq))]) gQ) ?_;refine gH (jJ gQ) ?_;refine gH (jR (T:=89) cl gQ) ?_;refine goT ?_;refine jB ?_;exact mK 1 [0,1,2,3,4,5,6,7,8]
      refine gH (jT (T:=89) (us:=pJ [(kI.mk bd be bf bg (gB.mk ai aj ak) (gU.mk al am an ao (gB.mk f y aa) ap aq))]) gQ) ?_;refine gH (jJ gQ) ?_;refine gH (jJ gQ) ?_;refine gH (jR (T:=89) cl gQ) ?_;refine goT ?_;refine jB ?_;exact mK 1 [0,1,2,3,4,5,6,7,8]
     refine goL ?_;refine jK (pV) ?_;exact⟨bp,b9,ca,cb,y5,y7,y9,(bn++[(kI.mk bd be bf bg (gB.mk ai aj ak) (gU.mk al am an ao (gB.mk f y aa) ap aq))]),(IntKind.i64.wrap (bo+1)),v6,v8,bl,(bm+1),h,Nat.lt_succ_self _,eJ⟩
 ·refine goX ?_;obtain⟨⟨c5,⟨bh,bi,bj⟩⟩,cy,h⟩:=gJ h;refine mZ 0 (pU (gN.mk y2 y3 y4) 10 cy) ?_;refine goL ?_;refine jE ?_;refine goC h ?_ ?_<;>intro db h
  ·refine goL ?_;refine gAg (us:=gP [[],[99,111,114,101]]) ?_;refine mD 8 rfl rfl ?_;obtain⟨⟨cw,⟨cq,cr,cs⟩⟩,cz,h⟩:=gJ h;refine mZ 0 (jZ (gN.mk bh bi bj) [[],[99,111,114,101]] cz) ?_;refine goL ?_;refine mI 2 rfl rfl ?_;refine gW 4 rfl rfl ?_;refine gW 5 rfl rfl ?_;refine gW 6 rfl rfl ?_;refine gW 7 rfl rfl ?_;refine jG ?_;obtain rfl:=Option.some.inj h;exact gCo [.d (.st [.s cw,.sl 1 (gP [[99,111,114,101]]),.sl 5 (uY y5),.sl 3 (pG y7),.sl 12 (pI y9),.sl 16 (pJ bn)])] [bCu cq cr cs] ⟨rfl,rfl⟩
  ·refine goC h ?_ ?_<;>intro dc h
   ·obtain⟨⟨bk,⟨cc,cd,ce⟩⟩,bt,h⟩:=gJ h;obtain⟨bq,h⟩:=pO h;refine qQ (P:=Tryz.prog) Mix.h (.q 2 (.h 0 (.h 1 (.h 3 (.h 4 (.h 5 (.h 6 (.q 7 (.h 8 .nil .nil)) .nil) .nil) .nil) .nil) (.h 3 (.h 1 (.h 4 (.h 5 (.h 6 (.q 7 (.h 8 .nil .nil)) .nil) .nil) .nil) (.h 4 (.h 1 (.h 5 (.h 6 (.q 7 (.h 8 .nil .nil)) .nil) .nil) (.h 5 (.h 1 (.h 6 (.q 7 (.h 8 .nil .nil)) .nil) .nil) .nil)) .nil)) .nil)) (.h 3 (.h 0 (.h 1 (.h 4 (.h 5 (.h 6 (.q 7 (.h 8 .nil .nil)) .nil) .nil) .nil) (.h 4 (.h 1 (.h 5 (.h 6 (.q 7 (.h 8 .nil .nil)) .nil) .nil) (.h 5 (.h 1 (.h 6 (.q 7 (.h 8 .nil .nil)) .nil) .nil) .nil)) .nil)) (.h 4 (.h 0 (.h 1 (.h 5 (.h 6 (.q 7 (.h 8 .nil .nil)) .nil) .nil) (.h 5 (.h 1 (.h 6 (.q 7 (.h 8 .nil .nil)) .nil) .nil) .nil)) (.h 5 (.h 0 (.h 1 (.h 6 (.q 7 (.h 8 .nil .nil)) .nil) .nil) .nil) .nil)) .nil)) .nil))) ⟨[(2,.ptr 1 0),(3,.ptr 3 0)],[bCu cc cd ce,.box [.S [],.nilsl,.nilsl,.nilsl,.nilsl,.nilsl],.own 9 1 (0+1) (gP ([[99,111,114,101]]++[bk])),.box [.d (.s [112]),.sl 2 (0+1),.sl 4 v6,.sl 5 v8,.sl 6 bl,.sl 7 bm],.arr 46 5 v6 (uY y5),.arr 171 3 v8 (pG y7),.arr 41 12 bl (pI y9),.arr 176 16 bm (pJ bn),.frz 9 1 0 (gP [[99,111,114,101],[113],[112]]),.dead 1],Tryz.f69.ntmps⟩ (by kernel_rfl) ?_ ?_
    ·refine goT ?_;refine pR (jJ gQ) ?_ ?_
     ·refine pR (jJ gQ) ?_ ?_
      ·refine gH (jT (T:=34) (us:=gP [[99,111,114,101],[113],[112]]) gQ) ?_;refine gH (mG 8 rfl rfl (mH 0 (jZ (gN.mk bh bi bj) [[99,111,114,101],[113],[112]] bt) gQ)) ?_;refine gH (gG1 (T:=34) (bk:LB) gQ) ?_;refine gH (gH1 (T:=34) bq gQ) ?_;refine goT ?_;refine jB ?_;exact mK 1 [0,1,2,3,4,5,6,7,8,9]
      refine gH (jT (T:=34) (us:=gP [[99,111,114,101],[113],[112]]) gQ) ?_;refine pR (jJ gQ) ?_ ?_
      ·refine gH (mG 8 rfl rfl (mH 0 (jZ (gN.mk bh bi bj) [[99,111,114,101],[113],[112]] bt) gQ)) ?_;refine gH (gG1 (T:=34) (bk:LB) gQ) ?_;refine gH (gH1 (T:=34) bq gQ) ?_;refine goT ?_;refine jB ?_;exact mK 1 [0,1,2,3,4,5,6,7,8,9]
      refine gH (mG 8 rfl rfl (mH 0 (jZ (gN.mk bh bi bj) [[99,111,114,101],[113],[112]] bt) gQ)) ?_;refine pR (jJ gQ) ?_ ?_
      ·refine gH (gG1 (T:=34) (bk:LB) gQ) ?_;refine gH (gH1 (T:=34) bq gQ) ?_;refine goT ?_;refine jB ?_;exact mK 1 [0,1,2,3,4,5,6,7,8,9]
      refine gH (gG1 (T:=34) (bk:LB) gQ) ?_;refine gH (jJ gQ) ?_;refine gH (gH1 (T:=34) bq gQ) ?_;refine goT ?_;refine jB ?_;exact mK 1 [0,1,2,3,4,5,6,7,8,9]
     refine gH (jT (T:=34) (us:=gP [[99,111,114,101],[113],[112]]) gQ) ?_;refine pR (jJ gQ) ?_ ?_
     ·refine pR (jJ gQ) ?_ ?_
      ·refine gH (mG 8 rfl rfl (mH 0 (jZ (gN.mk bh bi bj) [[99,111,114,101],[113],[112]] bt) gQ)) ?_;refine gH (gG1 (T:=34) (bk:LB) gQ) ?_;refine gH (gH1 (T:=34) bq gQ) ?_;refine goT ?_;refine jB ?_;exact mK 1 [0,1,2,3,4,5,6,7,8,9]
      refine gH (mG 8 rfl rfl (mH 0 (jZ (gN.mk bh bi bj) [[99,111,114,101],[113],[112]] bt) gQ)) ?_;refine pR (jJ gQ) ?_ ?_
      ·refine gH (gG1 (T:=34) (bk:LB) gQ) ?_;refine gH (gH1 (T:=34) bq gQ) ?_;refine goT ?_;refine jB ?_;exact mK 1 [0,1,2,3,4,5,6,7,8,9]
      refine gH (gG1 (T:=34) (bk:LB) gQ) ?_;refine gH (jJ gQ) ?_;refine gH (gH1 (T:=34) bq gQ) ?_;refine goT ?_;refine jB ?_;exact mK 1 [0,1,2,3,4,5,6,7,8,9]
     refine gH (mG 8 rfl rfl (mH 0 (jZ (gN.mk bh bi bj) [[99,111,114,101],[113],[112]] bt) gQ)) ?_;refine pR (jJ gQ) ?_ ?_
     ·refine pR (jJ gQ) ?_ ?_
      ·refine gH (gG1 (T:=34) (bk:LB) gQ) ?_;refine gH (gH1 (T:=34) bq gQ) ?_;refine goT ?_;refine jB ?_;exact mK 1 [0,1,2,3,4,5,6,7,8,9]
      refine gH (gG1 (T:=34) (bk:LB) gQ) ?_;refine gH (jJ gQ) ?_;refine gH (gH1 (T:=34) bq gQ) ?_;refine goT ?_;refine jB ?_;exact mK 1 [0,1,2,3,4,5,6,7,8,9]
     refine gH (gG1 (T:=34) (bk:LB) gQ) ?_;refine gH (jJ gQ) ?_;refine gH (jJ gQ) ?_;refine gH (gH1 (T:=34) bq gQ) ?_;refine goT ?_;refine jB ?_;exact mK 1 [0,1,2,3,4,5,6,7,8,9]
    refine goL ?_;refine mI 2 rfl rfl ?_;refine gW 4 rfl rfl ?_;refine gW 5 rfl rfl ?_;refine gW 6 rfl rfl ?_;refine gW 7 rfl rfl ?_;refine jG ?_;obtain rfl:=Option.some.inj h;exact gCo [.d (.st [.s [112],.sl 1 (gP ([[99,111,114,101]]++[bk])),.sl 5 (uY y5),.sl 3 (pG y7),.sl 12 (pI y9),.sl 16 (pJ bn)])] [bCu cc cd ce] ⟨rfl,rfl⟩
   ·refine goS ?_;refine mI 2 rfl rfl ?_;refine gW 4 rfl rfl ?_;refine gW 5 rfl rfl ?_;refine gW 6 rfl rfl ?_;refine gW 7 rfl rfl ?_;refine jG ?_;obtain rfl:=Option.some.inj h;exact gCo [.d (.st [.s [112],.sl 1 (gP [[99,111,114,101]]),.sl 5 (uY y5),.sl 3 (pG y7),.sl 12 (pI y9),.sl 16 (pJ bn)])] [bCu bh bi bj] ⟨rfl,rfl⟩
def gVz(c:gN):Option (jX × gN):=gOj c 5000
end Go.Proofs.YtfpdlnkkcnmebaaGreat
