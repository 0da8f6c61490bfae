import Derived.Test.YtfpdlnkkcnmebaaGreatB11
import Derived.Test.YtfpdlnkkcnmebaaGreatB15
import Derived.Test.YtfpdlnkkcnmebaaGreatB17
import Derived.Test.YtfpdlnkkcnmebaaGreatIs
set_option maxHeartbeats 4000000
set_option linter.unusedVariables false
set_option linter.unusedSimpArgs false
set_option linter.unusedSectionVars false
namespace Go.Proofs.YtfpdlnkkcnmebaaGreat
open Go Go.Eng
attribute [local irreducible] V VO VQ VY Quiet QR jI mK Rng qE qA pX
def gBb(x1:Int × gK):Nat→LB→Int→Int→(List pM)→(List kG)→(List jD)→(List kX)→Int→Option (jZ × gK)
 | 0,y2,y3,y4,y5,y7,y9,f,aa=>none
 | ai+1,y2,y3,y4,y5,y7,y9,f,aa=>(cnd (decide (aa < x1.1)) (
bnd (kW (gK.mk y2 y3 y4) 4) fun q=>
(cnd (q.1==0) (
bnd (gI2 q.2) fun ab=>
gd (y5.length+[ab.1].length≤4294967296) (
gBb x1 ai ab.2.b ab.2.i ab.2.h (y5++[ab.1]) y7 y9 f (IntKind.i64.wrap (aa+1)))) (
(cnd (q.1==1) (
bnd (gLt q.2) fun ac=>
gd (y7.length+[ac.1].length≤4294967296) (
gBb x1 ai ac.2.b ac.2.i ac.2.h y5 (y7++[ac.1]) y9 f (IntKind.i64.wrap (aa+1)))) (
(cnd (q.1==2) (
bnd (gKr q.2) fun ad=>
gd (y9.length+[ad.1].length≤4294967296) (
gBb x1 ai ad.2.b ad.2.i ad.2.h y5 y7 (y9++[ad.1]) f (IntKind.i64.wrap (aa+1)))) (
bnd (gQf q.2) fun ae=>
gd (f.length+[ae.1].length≤4294967296) (
gBb x1 ai ae.2.b ae.2.i ae.2.h y5 y7 y9 (f++[ae.1]) (IntKind.i64.wrap (aa+1)))))))))) (
bnd (kW (gK.mk y2 y3 y4) 10) fun y=>
bnd ((cnd (y.1==0) (
bnd (pK y.2 [[],[99,111,114,101]]) fun aj=>
(some (aj.2.b,aj.2.i,aj.2.h,[[99,111,114,101]],aj.1))) (
(cnd (y.1==1) (
bnd (pK y.2 [[99,111,114,101],[113],[112]]) fun ag=>
gd (([[99,111,114,101]]:LS).length+[ag.1].length≤4294967296) (
(some (ag.2.b,ag.2.i,ag.2.h,([[99,111,114,101]]++[ag.1]),[112])))) (
(some (y.2.b,y.2.i,y.2.h,[[99,111,114,101]],[112]))))))) fun ah=>
(some ((jZ.mk ah.2.2.2.2 ah.2.2.2.1 y5 y7 y9 f),(gK.mk ah.1 ah.2.1 ah.2.2.1)))))
def gP5(c:gK)(q:Nat):Option (jZ × gK):=
bnd (kW c 5) fun f=>
gBb f q f.2.b f.2.i f.2.h [] [] [] [] 0
theorem gZr(c:gK){n0:Nat}{r:jZ × gK}(h:gP5 c n0=some r):Go.Eng.Spec Tryz.prog 69 [.ptr 0 0] [bCu c.b c.i c.h] (fun sv Lo=>sv=.d (gEv r.1)∧Lo=[bCu r.2.b r.2.i r.2.h]):=by
 obtain⟨c7,c8,c9⟩:=c;unfold gP5 at h;refine kJ 1 Tryz.func69 rfl (by kernel_rfl) rfl rfl fun A _=>?_;refine goL ?_;refine wX ([99,111,114,101]:LB) ?_;refine yT (jN TBd.h TZ.h rfl (by repeat constructor)) ?_;obtain⟨⟨bt,⟨ca,cb,cc⟩⟩,da,h⟩:=gJ h;refine mI 0 (mH (gK.mk c7 c8 c9) 5 da) ?_;refine goL ?_;refine noB ?_;refine qZ 46 5 3 2 rfl rfl (by repeat constructor) (by repeat constructor) (by repeat constructor) (by repeat constructor) ?_;show V _ _ _ _ _;refine qZ 171 3 3 3 rfl rfl (by repeat constructor) (by repeat constructor) (by repeat constructor) (by repeat constructor) ?_;show V _ _ _ _ _;refine qZ 41 12 3 4 rfl rfl (by repeat constructor) (by repeat constructor) (by repeat constructor) (by repeat constructor) ?_;show V _ _ _ _ _;refine qZ 176 16 3 5 rfl rfl (by repeat constructor) (by repeat constructor) (by repeat constructor) (by repeat constructor) ?_;show V _ _ _ _ _;refine hIq (fun(bo:Nat)(y2:LB)(y3:Int)(y4:Int)(y5:List pM)(y7:List kG)(y9:List jD)(bj:List kX)(bn:Int)(v6:Nat)(v8:Nat)(aw:Nat)(ax:Nat)=>⟨[(0,.ptr 0 0),(2,.ptr 1 0),(3,.ptr 3 0),(4,.I bt),(5,.I bn)],[bCu y2 y3 y4,.box [.S [],.nilsl,.nilsl,.nilsl,.nilsl,.nilsl],.own 9 1 0 (gT [[99,111,114,101]]),.box [.d (.s [112]),.sl 2 0,.sl 4 v6,.sl 5 v8,.sl 6 aw,.sl 7 ax],.arr 46 5 v6 (yM y5),.arr 171 3 v8 (qK y7),.arr 41 12 aw (qL y9),.arr 176 16 ax (qM bj)],Tryz.f69.ntmps⟩) (fun bo y2 y3 y4 y5 y7 y9 bj bn v6 v8 aw ax=>gBb (bt,(gK.mk ca cb cc)) bo y2 y3 y4 y5 y7 y9 bj bn=some r) (fun bo y2 y3 y4 y5 y7 y9 bj bn v6 v8 aw ax=>bo) n0 ca cb cc [] [] [] [] 0 0 0 0 0 eJ h ?_;rintro bo y2 y3 y4 y5 y7 y9 bj bn v6 v8 aw ax h;rcases bo with _ | bo
 ·cases h
 rw [gBb.eq_2] at h;refine goC h ?_ ?_<;>intro df h
 ·refine noS ?_;refine kI (jA ?_);refine goL ?_;obtain⟨⟨db,⟨ar,au,av⟩⟩,c1,h⟩:=gJ h;refine mI 0 (mH (gK.mk y2 y3 y4) 4 c1) ?_;refine goL ?_;refine jA ?_;refine goC h ?_ ?_<;>intro dg h
  ·obtain⟨⟨⟨ay,a0,a3,a4,a5⟩,⟨bu,bv,bw⟩⟩,cn,h⟩:=gJ h;obtain⟨cu,h⟩:=pU h;refine qY (P:=Tryz.prog) Mix.h (.q 0 (.q 2 (.h 1 (hcT 3 (hcT 4 (hcT 5 (.q 6 (hzT 7))))) (hcT 3 (.h 1 (hcT 4 (hcT 5 (.q 6 (hzT 7)))) (hcT 4 (hcT 1 (hcT 5 (.q 6 (hzT 7)))))))))) ⟨[(0,.ptr 0 0),(2,.ptr 1 0),(3,.ptr 3 0),(4,.I bt),(5,.I bn)],[bCu bu bv bw,.box [.S [],.nilsl,.nilsl,.nilsl,.nilsl,.nilsl],.own 9 1 0 (gT [[99,111,114,101]]),.box [.d (.s [112]),.sl 2 0,.sl 4 (v6+1),.sl 5 v8,.sl 6 aw,.sl 7 ax],.arr 46 5 (v6+1) (yM (y5++[(pM.mk ay a0 a3 a4 a5)])),.arr 171 3 v8 (qK y7),.arr 41 12 aw (qL y9),.arr 176 16 ax (qM bj),.arr 46 5 0 (yM [(pM.mk ay a0 a3 a4 a5)])],Tryz.f69.ntmps⟩ (by kernel_rfl) ?_ ?_
   ·refine mU ?_;refine uD (kF gZ) ?_ ?_
    ·refine gQ (qU 0 (gSs (gK.mk ar au av) cn) gZ) ?_;refine gQ (kT (T:=86) (us:=yM [(pM.mk ay a0 a3 a4 a5)]) gZ) ?_;refine gQ (kN (T:=86) cu gZ) ?_;refine mU ?_;refine jL ?_;exact pQ 1 [0,1,2,3,4,5,6,7,8]
    refine gQ (qU 0 (gSs (gK.mk ar au av) cn) gZ) ?_;refine uD (kF gZ) ?_ ?_
    ·refine gQ (kT (T:=86) (us:=yM [(pM.mk ay a0 a3 a4 a5)]) gZ) ?_;refine gQ (kN (T:=86) cu gZ) ?_;refine mU ?_;refine jL ?_;exact pQ 1 [0,1,2,3,4,5,6,7,8]
    refine gQ (kT (T:=86) (us:=yM [(pM.mk ay a0 a3 a4 a5)]) gZ) ?_;refine gQ (kF gZ) ?_;refine gQ (kN (T:=86) cu gZ) ?_;refine mU ?_;refine jL ?_;exact pQ 1 [0,1,2,3,4,5,6,7,8]
   refine goL ?_;refine jP (pV) ?_;exact⟨bo,bu,bv,bw,(y5++[(pM.mk ay a0 a3 a4 a5)]),y7,y9,bj,(IntKind.i64.wrap (bn+1)),(v6+1),v8,aw,ax,h,Nat.lt_succ_self _,eJ⟩
  ·refine goC h ?_ ?_<;>intro dh h
   ·obtain⟨⟨⟨a6,a7,a8⟩,⟨bx,bz,b0⟩⟩,co,h⟩:=gJ h;obtain⟨cv,h⟩:=pU h;refine qY (P:=Tryz.prog) Mix.h (.q 0 (.q 2 (.h 1 (hcT 3 (hcT 4 (hcT 5 (.q 6 (hzT 7))))) (hcT 3 (.h 1 (hcT 4 (hcT 5 (.q 6 (hzT 7)))) (hcT 4 (hcT 1 (hcT 5 (.q 6 (hzT 7)))))))))) ⟨[(0,.ptr 0 0),(2,.ptr 1 0),(3,.ptr 3 0),(4,.I bt),(5,.I bn)],[bCu bx bz b0,.box [.S [],.nilsl,.nilsl,.nilsl,.nilsl,.nilsl],.own 9 1 0 (gT [[99,111,114,101]]),.box [.d (.s [112]),.sl 2 0,.sl 4 v6,.sl 5 (v8+1),.sl 6 aw,.sl 7 ax],.arr 46 5 v6 (yM y5),.arr 171 3 (v8+1) (qK (y7++[(kG.mk a6 a7 a8)])),.arr 41 12 aw (qL y9),.arr 176 16 ax (qM bj),.arr 171 3 0 (qK [(kG.mk a6 a7 a8)])],Tryz.f69.ntmps⟩ (by kernel_rfl) ?_ ?_
    ·refine mU ?_;refine uD (kF gZ) ?_ ?_
     ·refine gQ (qU 0 (gWb (gK.mk ar au av) co) gZ) ?_;refine gQ (kT (T:=87) (us:=qK [(kG.mk a6 a7 a8)]) gZ) ?_;refine gQ (kN (T:=87) cv gZ) ?_;refine mU ?_;refine jL ?_;exact pQ 1 [0,1,2,3,4,5,6,7,8]
     refine gQ (qU 0 (gWb (gK.mk ar au av) co) gZ) ?_;refine uD (kF gZ) ?_ ?_
     ·refine gQ (kT (T:=87) (us:=qK [(kG.mk a6 a7 a8)]) gZ) ?_;refine gQ (kN (T:=87) cv gZ) ?_;refine mU ?_;refine jL ?_;exact pQ 1 [0,1,2,3,4,5,6,7,8]
     refine gQ (kT (T:=87) (us:=qK [(kG.mk a6 a7 a8)]) gZ) ?_;refine gQ (kF gZ) ?_;refine gQ (kN (T:=87) cv gZ) ?_;refine mU ?_;refine jL ?_;exact pQ 1 [0,1,2,3,4,5,6,7,8]
    refine goL ?_;refine jP (pV) ?_;exact⟨bo,bx,bz,b0,y5,(y7++[(kG.mk a6 a7 a8)]),y9,bj,(IntKind.i64.wrap (bn+1)),v6,(v8+1),aw,ax,h,Nat.lt_succ_self _,eJ⟩
   ·refine goC h ?_ ?_<;>intro di h
    ·obtain⟨⟨⟨a9,ba,⟨ab,ac,ad⟩,bb,bc,bd,⟨ae,ag,ah⟩,be⟩,⟨b1,b2,b3⟩⟩,cp,h⟩:=gJ h;obtain⟨cw,h⟩:=pU h;refine qY (P:=Tryz.prog) Mix.h (.q 0 (.q 2 (.h 1 (hcT 3 (hcT 4 (hcT 5 (.q 6 (hzT 7))))) (hcT 3 (.h 1 (hcT 4 (hcT 5 (.q 6 (hzT 7)))) (hcT 4 (hcT 1 (hcT 5 (.q 6 (hzT 7)))))))))) ⟨[(0,.ptr 0 0),(2,.ptr 1 0),(3,.ptr 3 0),(4,.I bt),(5,.I bn)],[bCu b1 b2 b3,.box [.S [],.nilsl,.nilsl,.nilsl,.nilsl,.nilsl],.own 9 1 0 (gT [[99,111,114,101]]),.box [.d (.s [112]),.sl 2 0,.sl 4 v6,.sl 5 v8,.sl 6 (aw+1),.sl 7 ax],.arr 46 5 v6 (yM y5),.arr 171 3 v8 (qK y7),.arr 41 12 (aw+1) (qL (y9++[(jD.mk a9 ba (gB.mk ab ac ad) bb bc bd (gB.mk ae ag ah) be)])),.arr 176 16 ax (qM bj),.arr 41 12 0 (qL [(jD.mk a9 ba (gB.mk ab ac ad) bb bc bd (gB.mk ae ag ah) be)])],Tryz.f69.ntmps⟩ (by kernel_rfl) ?_ ?_
     ·refine mU ?_;refine uD (kF gZ) ?_ ?_
      ·refine gQ (qU 0 (gU3 (gK.mk ar au av) cp) gZ) ?_;refine gQ (kT (T:=88) (us:=qL [(jD.mk a9 ba (gB.mk ab ac ad) bb bc bd (gB.mk ae ag ah) be)]) gZ) ?_;refine gQ (kN (T:=88) cw gZ) ?_;refine mU ?_;refine jL ?_;exact pQ 1 [0,1,2,3,4,5,6,7,8]
      refine gQ (qU 0 (gU3 (gK.mk ar au av) cp) gZ) ?_;refine uD (kF gZ) ?_ ?_
      ·refine gQ (kT (T:=88) (us:=qL [(jD.mk a9 ba (gB.mk ab ac ad) bb bc bd (gB.mk ae ag ah) be)]) gZ) ?_;refine gQ (kN (T:=88) cw gZ) ?_;refine mU ?_;refine jL ?_;exact pQ 1 [0,1,2,3,4,5,6,7,8]
      refine gQ (kT (T:=88) (us:=qL [(jD.mk a9 ba (gB.mk ab ac ad) bb bc bd (gB.mk ae ag ah) be)]) gZ) ?_;refine gQ (kF gZ) ?_;refine gQ (kN (T:=88) cw gZ) ?_;refine mU ?_;refine jL ?_;exact pQ 1 [0,1,2,3,4,5,6,7,8]
     refine goL ?_;refine jP (pV) ?_;exact⟨bo,b1,b2,b3,y5,y7,(y9++[(jD.mk a9 ba (gB.mk ab ac ad) bb bc bd (gB.mk ae ag ah) be)]),bj,(IntKind.i64.wrap (bn+1)),v6,v8,(aw+1),ax,h,Nat.lt_succ_self _,eJ⟩
    ·obtain⟨⟨⟨bf,bg,bh,bi,⟨ai,aj,ak⟩,⟨al,am,an,ao,⟨f,y,aa⟩,ap,aq⟩⟩,⟨b4,b5,b6⟩⟩,cq,h⟩:=gJ h;obtain⟨cx,h⟩:=pU h;refine qY (P:=Tryz.prog) Mix.h (.q 0 (.q 2 (.h 1 (hcT 3 (hcT 4 (hcT 5 (.q 6 (hzT 7))))) (hcT 3 (.h 1 (hcT 4 (hcT 5 (.q 6 (hzT 7)))) (hcT 4 (hcT 1 (hcT 5 (.q 6 (hzT 7)))))))))) ⟨[(0,.ptr 0 0),(2,.ptr 1 0),(3,.ptr 3 0),(4,.I bt),(5,.I bn)],[bCu b4 b5 b6,.box [.S [],.nilsl,.nilsl,.nilsl,.nilsl,.nilsl],.own 9 1 0 (gT [[99,111,114,101]]),.box [.d (.s [112]),.sl 2 0,.sl 4 v6,.sl 5 v8,.sl 6 aw,.sl 7 (ax+1)],.arr 46 5 v6 (yM y5),.arr 171 3 v8 (qK y7),.arr 41 12 aw (qL y9),.arr 176 16 (ax+1) (qM (bj++[(kX.mk bf bg bh bi (gB.mk ai aj ak) (gY.mk al am an ao (gB.mk f y aa) ap aq))])),.arr 176 16 0 (qM [(kX.mk bf bg bh bi (gB.mk ai aj ak) (gY.mk al am an ao (gB.mk f y aa) ap aq))])],Tryz.f69.ntmps⟩ (by kernel_rfl) ?_ ?_
     ·refine mU ?_;refine uD (kF gZ) ?_ ?_
      ·refine gQ (qU 0 (hB6 (gK.mk ar au av) cq) gZ) ?_;refine gQ (kT (T:=89) (us:=qM [(kX.mk bf bg bh bi (gB.mk ai aj ak) (gY.mk al am an ao (gB.mk f y aa) ap aq))]) gZ) ?_;refine gQ (kN (T:=89) cx gZ) ?_;refine mU ?_;refine jL ?_;exact pQ 1 [0,1,2,3,4,5,6,7,8]
      refine gQ (qU 0 (hB6 (gK.mk ar au av) cq) gZ) ?_;refine uD (kF gZ) ?_ ?_
      ·refine gQ (kT (T:=89) (us:=qM [(kX.mk bf bg bh bi (gB.mk ai aj ak) (gY.mk al am an ao (gB.mk f y aa) ap aq))]) gZ) ?_;refine gQ (kN (T:=89) cx gZ) ?_;refine mU ?_;refine jL ?_;exact pQ 1 [0,1,2,3,4,5,6,7,8]
      refine gQ (kT (T:=89) (us:=qM [(kX.mk bf bg bh bi (gB.mk ai aj ak) (gY.mk al am an ao (gB.mk f y aa) ap aq))]) gZ) ?_;refine gQ (kF gZ) ?_;refine gQ (kN (T:=89) cx gZ) ?_;refine mU ?_;refine jL ?_;exact pQ 1 [0,1,2,3,4,5,6,7,8]
     refine goL ?_;refine jP (pV) ?_;exact⟨bo,b4,b5,b6,y5,y7,y9,(bj++[(kX.mk bf bg bh bi (gB.mk ai aj ak) (gY.mk al am an ao (gB.mk f y aa) ap aq))]),(IntKind.i64.wrap (bn+1)),v6,v8,aw,(ax+1),h,Nat.lt_succ_self _,eJ⟩
 ·refine goX ?_;obtain⟨⟨dc,⟨bk,bl,bm⟩⟩,c2,h⟩:=gJ h;refine mI 0 (mH (gK.mk y2 y3 y4) 10 c2) ?_;refine goL ?_;obtain⟨⟨cd,ce,cf,cg,ch⟩,hb29,h⟩:=gJ h;refine gIx (fun cy=>⟨[(2,.ptr 1 0),(3,.ptr 3 0)],[bCu cd ce cf,.box [.S [],.nilsl,.nilsl,.nilsl,.nilsl,.nilsl],.own 9 1 cy (gT cg),.box [.S ch,.sl 2 cy,.sl 4 v6,.sl 5 v8,.sl 6 aw,.sl 7 ax],.arr 46 5 v6 (yM y5),.arr 171 3 v8 (qK y7),.arr 41 12 aw (qL y9),.arr 176 16 ax (qM bj)],Tryz.f69.ntmps⟩) ?_ (fun cy=>?_)
  ·refine jA ?_;refine goL ?_;refine mR (fun cz=>?_) (fun cz=>?_)
   ·replace hb29:=kU cz hb29;refine goL ?_;refine yQ (us:=gT [[],[99,111,114,101]]) ?_;refine kS 8 rfl rfl ?_;obtain⟨⟨dd,⟨c3,c4,c5⟩⟩,c6,hb29⟩:=gJ hb29;refine mI 0 (kZ (gK.mk bk bl bm) [[],[99,111,114,101]] c6) ?_;refine goL ?_;cases hb29;exact⟨0,eJ⟩
   ·replace hb29:=kV cz hb29;refine goL ?_;refine mR (fun c0=>?_) (fun c0=>?_)
    ·replace hb29:=kU c0 hb29;obtain⟨⟨bp,⟨ci,cj,ck⟩⟩,cl,hb29⟩:=gJ hb29;obtain⟨cm,hb29⟩:=pU hb29;refine qY (P:=Tryz.prog) Mix.h (.q 0 (.q 2 (.h 1 (hcT 3 (hcT 4 (hcT 5 (hcT 6 (.q 7 (hzT 8)))))) (hcT 3 (.h 1 (hcT 4 (hcT 5 (hcT 6 (.q 7 (hzT 8))))) (hcT 4 (.h 1 (hcT 5 (hcT 6 (.q 7 (hzT 8)))) (hcT 5 (hcT 1 (hcT 6 (.q 7 (hzT 8)))))))))))) ⟨[(2,.ptr 1 0),(3,.ptr 3 0)],[bCu ci cj ck,.box [.S [],.nilsl,.nilsl,.nilsl,.nilsl,.nilsl],.own 9 1 (0+1) (gT ([[99,111,114,101]]++[bp])),.box [.d (.s [112]),.sl 2 (0+1),.sl 4 v6,.sl 5 v8,.sl 6 aw,.sl 7 ax],.arr 46 5 v6 (yM y5),.arr 171 3 v8 (qK y7),.arr 41 12 aw (qL y9),.arr 176 16 ax (qM bj),.frz 9 1 0 (gT [[99,111,114,101],[113],[112]]),.dead 1],Tryz.f69.ntmps⟩ (by kernel_rfl) ?_ ?_
     ·refine mU ?_;refine uD (kF gZ) ?_ ?_
      ·refine gQ (kT (T:=34) (us:=gT [[99,111,114,101],[113],[112]]) gZ) ?_;refine gQ (qC 8 rfl rfl (qU 0 (kZ (gK.mk bk bl bm) [[99,111,114,101],[113],[112]] cl) gZ)) ?_;refine gQ (gLf (T:=34) (bp:LB) gZ) ?_;refine gQ (gOs (T:=34) cm gZ) ?_;refine mU ?_;refine jL ?_;exact pQ 1 [0,1,2,3,4,5,6,7,8,9]
      refine gQ (kT (T:=34) (us:=gT [[99,111,114,101],[113],[112]]) gZ) ?_;refine uD (kF gZ) ?_ ?_
      ·refine gQ (qC 8 rfl rfl (qU 0 (kZ (gK.mk bk bl bm) [[99,111,114,101],[113],[112]] cl) gZ)) ?_;refine gQ (gLf (T:=34) (bp:LB) gZ) ?_;refine gQ (gOs (T:=34) cm gZ) ?_;refine mU ?_;refine jL ?_;exact pQ 1 [0,1,2,3,4,5,6,7,8,9]
      refine gQ (qC 8 rfl rfl (qU 0 (kZ (gK.mk bk bl bm) [[99,111,114,101],[113],[112]] cl) gZ)) ?_;refine uD (kF gZ) ?_ ?_
      ·refine gQ (gLf (T:=34) (bp:LB) gZ) ?_;refine gQ (gOs (T:=34) cm gZ) ?_;refine mU ?_;refine jL ?_;exact pQ 1 [0,1,2,3,4,5,6,7,8,9]
      refine gQ (gLf (T:=34) (bp:LB) gZ) ?_;refine gQ (kF gZ) ?_;refine gQ (gOs (T:=34) cm gZ) ?_;refine mU ?_;refine jL ?_;exact pQ 1 [0,1,2,3,4,5,6,7,8,9]
     refine goL ?_;cases hb29;exact⟨(0+1),eJ⟩
    ·replace hb29:=kV c0 hb29;refine vN ?_;cases hb29;exact⟨0,eJ⟩
  refine goL ?_;refine mP 2 rfl rfl ?_;refine gV 4 rfl rfl ?_;refine gV 5 rfl rfl ?_;refine gV 6 rfl rfl ?_;refine gV 7 rfl rfl ?_;refine jF ?_;obtain rfl:=Option.some.inj h;exact gB5 [.d (.st [.s ch,.sl 1 (gT cg),.sl 5 (yM y5),.sl 3 (qK y7),.sl 12 (qL y9),.sl 16 (qM bj)])] [bCu cd ce cf] ⟨rfl,rfl⟩
def gXz(f:gK):Option (jZ × gK):=gP5 f 5000
def gGv(f:gM)(a1:List gP)(a2:gP):Option (gH × Int):=
bnd (gDh f a1) fun q=>
bnd (vK 5000 f q a2 12) fun h=>
(some (h.1,h.2))
theorem gIi(a0:gM)(a1:List gP)(a2:gP){r:gH × Int}(h:gGv a0 a1 a2=some r):jI Tryz.prog 25 [.d (mD a0),.L 4 (kC a1),.d (yF a2)] [mZ r.1,.i .i64 r.2]:=by
 obtain⟨aj⟩:=a0;obtain⟨ak,⟨y,aa,ab⟩⟩:=a2;unfold gGv at h;refine SpI Tryz.func25 fun A _=>?_;refine gIb ?_;refine jS (P:=Tryz.prog) Mix.h [(0,true),(1,true),(2,true),(3,true),(4,true),(5,true),(6,true),(7,true),(8,false),(9,true)] (by kernel_rfl) ?_;refine goY ?_;obtain⟨x1,ah,h⟩:=gJ h;refine jW rfl (gI (gSh _ _ ah)) ?_;refine goY ?_;obtain⟨⟨⟨ac,ad,⟨f,q⟩,ae⟩,al⟩,ai,h⟩:=gJ h;refine jW rfl (gI (hAc _ _ _ _ _ ai)) ?_;refine goY ?_;refine mJ ?_;exact goR h
mutual
def hpT:gB→Bool
 | ⟨k,_,ts⟩=>hLb ts || (k==3)
def hLb:List gB→Bool
 | []=>false
 | a::ts=>hpT a || hLb ts
end
mutual
def ed:gB→Nat
 | ⟨_,_,ts⟩=>eds ts
def eds:List gB→Nat
 | []=>0
 | a::ts=>max (1+ed a) (eds ts)
end
theorem gX0:∀{ts:List gB}{u:gB},u∈ts→1+ed u≤eds ts
 | a::ts,u,h=>by
   simp only [eds];rcases List.mem_cons.1 h with rfl | h
   ·omega
   ·have:=gX0 h
    omega
mutual
theorem hLc:∀(n:Nat)(t:gB),ed t < n→vY n t=some (hpT t)
 | 0,t,h=>by omega
 | n+1,⟨k,s,ts⟩,h=>by
   simp only [ed] at h;rw [vY];unfold gDr;rw [hFv n ⟨k,s,ts⟩ ts (by omega)];rfl
theorem hFv:∀(n:Nat)(t:gB)(ts:List gB),eds ts≤n→uV (vY n) t ts=some (hLb ts || (t.kind==3))
 | n,t,[],_=>by simp [uV,hLb]
 | n,t,a::ts,h=>by
   simp only [eds] at h;rw [uV,jV (hLc n a (by omega))];simp only [hLb];cases hpT a with
   | true=>rfl
   | false=>rw [gW,hFv n t ts (by omega)];rfl
end
mutual
theorem hLd:∀(n:Nat)(b:Bool)(t:gB),ed t < n→gMa n b t=some (b || hpT t)
 | 0,b,t,h=>by omega
 | n+1,b,⟨k,s,ts⟩,h=>by
   simp only [ed] at h;rw [gMa];unfold gPy;simp only [lt_];rw [hFw n ts _ (by omega)];unfold gVx;simp only [hpT];cases b<;>simp [cnd,Bool.or_comm]
theorem hFw:∀(n:Nat)(ts:List gB)(b:Bool),eds ts≤n→gCi (gMa n) ts b=some (b || hLb ts)
 | n,[],b,_=>by simp [gCi,hLb]
 | n,a::ts,b,h=>by
   simp only [eds] at h;rw [gCi,jV (hLd n b a (by omega)),hFw n ts _ (by omega)];simp only [hLb,Bool.or_assoc]
end
def grT(t:gB):Bool:=cnd (((gJ6 t []).length:Int)==0) (!hpT t) false
theorem hLf{t:gB}(h:tnd t≤4294967296)(he:ed t < 5000):gCv t=some (grT t):=by
 unfold gCv gBs grT;rw [qN (by simpa using h)];simp only [lt_,bnd];cases ((gJ6 t []).length:Int)==0 with
 | false=>rfl
 | true=>rw [jQ,hLc 5000 t he];rfl
theorem gPg(t:gB)(h:tnd t≤4294967296):gCp t=some (gJ6 t []):=by
 unfold gCp gGw;simp only [zW];rw [qN (by simpa using h)];rfl
theorem hP6{t:gB}(h:tnd t≤4294967296)(he:ed t < 5000):gDx t=some (grT t):=by
 unfold gDx grT gMb;rw [jV (gPg t h)];cases ((gJ6 t []).length:Int)==0 with
 | false=>rfl
 | true=>rw [jQ,hLd 5000 false t he];rfl
def eqN:LB:=[101,113]
def hBt:LB:=[111,114,100]
def gFj:LB:=[115,104,111,119]
def EO(n:LB):Prop:=n=eqN∨n=hBt
mutual
def dyS:gB→Prop
 | ⟨k,n,ts⟩=>(k=4→n=gFj)∧hNm ts
def hNm:List gB→Prop
 | []=>True
 | a::ts=>dyS a∧hNm ts
end
theorem gP6:∀{ts:List gB},hNm ts↔∀t∈ts,dyS t
 | []=>by simp [hNm]
 | a::ts=>by simp only [hNm,gP6 (ts:=ts),List.mem_cons,forall_eq_or_imp]
structure GI (k:Nat)(t:gB):Prop where
 tok:tok t
 dy:dyS t
 sz:tnd t≤5^k
 ed:ed t≤5*k
theorem GI.args{k:Nat}{t:gB}(h:GI k t):∀u∈t.args,GI k u:=fun u hu=>by
 have f:=h.tok;have q:=h.dy;have y:=h.sz;have h4:=h.ed;obtain⟨a,n,ts⟩:=t;have hu:u∈ts:=hu;have e1:=gX0 hu;have e2:=gHt hu;simp only [tnd] at y;simp only [Go.Proofs.YtfpdlnkkcnmebaaGreat.ed] at h4;exact⟨hLx _ f u hu,gP6.1 q.2 u hu,by omega,by omega⟩
structure SW (w:gM)(all:List gD):Prop extends WI w all where
 tra:∀n,EO n→(uJ w n).1.auto=false∧(gAp w n).1.auto=false
 dyn:∀n,EO n→(∃p,qW w gFj n=some (p,false))∧∃p,wH w gFj n=some (p,false)
 whr:∀o∈all,∀i,gHo w o=some i→EO i.trait→i.where_.length≤4∧∀b∈i.where_,EO b.trait∧tok b.type_∧dyS b.type_∧tnd b.type_≤5
mutual
theorem gZs:∀(t:gB),ed t+1≤tnd t
 | ⟨_,_,ts⟩=>by have:=hFx ts;simp only [ed,tnd];omega
theorem hFx:∀(ts:List gB),eds ts≤gHs ts
 | []=>Nat.le_refl _
 | a::ts=>by have:=gZs a;have:=hFx ts;simp only [eds,gHs];omega
end
mutual
theorem hNn{l:List gU}{E:Nat}(hl:∀b∈l,ed b.type_≤E):∀(t:gB),ed (apT l t)≤ed t+E
 | ⟨k,n,ts⟩=>by
   have ih:=hLg hl ts;simp only [apT];cases k==1 with
   | false=>simp only [gW,ed];omega
   | true=>
     rw [jQ];cases hb:(lkp n l).2 with
     | false=>simp only [gW,ed];omega
     | true=>
       obtain⟨b,f,_,h⟩:=gR8 hb;rw [jQ,h]
       have:=hl b f
       omega
theorem hLg{l:List gU}{E:Nat}(hl:∀b∈l,ed b.type_≤E):∀(ts:List gB),eds (gTg l ts)≤eds ts+E
 | []=>by simp [gTg,eds]
 | a::ts=>by
   have f:=hNn hl a;have q:=hLg hl ts;simp only [gTg,eds];omega
end
mutual
theorem hFy{l:List gU}(hl:∀b∈l,dyS b.type_):∀(t:gB),dyS t→dyS (apT l t)
 | ⟨k,n,ts⟩,h=>by
   have ih:=hFz hl ts h.2;simp only [apT];cases k==1 with
   | false=>exact⟨h.1,ih⟩
   | true=>
     rw [jQ];cases hb:(lkp n l).2 with
     | false=>exact⟨h.1,ih⟩
     | true=>
       obtain⟨b,f,_,q⟩:=gR8 hb;rw [jQ,q];exact hl b f
theorem hFz{l:List gU}(hl:∀b∈l,dyS b.type_):∀(ts:List gB),hNm ts→hNm (gTg l ts)
 | [],_=>trivial
 | a::ts,h=>⟨hFy hl a h.1,hFz hl ts h.2⟩
end
inductive Al2 {α β:Type}(R:α→β→Prop):List α→List β→Prop
 | nil:Al2 R [] []
 | cons {a:α} {b:β} {l:List α} {l':List β} (h:R a b) (t:Al2 R l l'):Al2 R (a::l) (b::l')
theorem Al2.len{α β:Type}{R:α→β→Prop}{l:List α}{l':List β}(h:Al2 R l l'):l'.length=l.length:=by
 induction h with
 | nil=>rfl
 | cons _ _ ih=>simp [ih]
def EvS(w:gM)(all:List gD):Nat→gP→gH→Prop
 | 0,_,_=>False
 | d+1,g,e=>e.kind=1∧e.n=0∧tok g.type_∧tnd g.type_≤4294967296∧ed g.type_ < 5000∧hA4 w all (grT g.type_) g=(e.at_,0)∧∃i l,gHo w e.at_=some i∧e.at_∈all∧mtT i.head g.type_ []=some l∧bok l∧i.where_.length≤4∧(∀b∈i.where_,tok b.type_)∧Al2 (fun b a=>EvS w all d ⟨b.trait,apT l b.type_⟩ a) i.where_ e.args
theorem hF0{α β:Type}(x:α)(f:α→Option β):bnd (some x) f=f x:=rfl
theorem gZt:∀{t:gB},dyS t→(t.kind==4)=true→t.name=gFj
 | ⟨_,_,_⟩,h,f=>h.1 (by simpa using f)
theorem hLh(g:gP):gP2 [] g=some (-1):=rfl
theorem gZu(rec:yO→gP→Int→Option (gH × Int))(q:yO)(a2:Int)(x:gD × Int)(y:List gU × Bool):∀(bs:List gP)(acc:List gH),vV rec q a2 x y bs acc=uA rec q a2 x y bs acc
 | [],_=>rfl
 | b::bs,acc=>by
   rw [vV,uA];simp only [gZu rec q a2 x y bs]
section
variable {w:gM}{all:List gD}(hw:SW w all)
include hw
theorem hLl{d k n m:Nat}(hk:d+k+1=12)(ih:∀(g:gP),EO g.trait→GI (k+1) g.type_→∃r,vK n w [] g (d:Int)=some r∧vI m ⟨w,[]⟩ g (12 - (d:Int))=some r∧(r.2=0→EvS w all d g r.1)){o:gD}{l:List gU}(hl:∀b∈l,GI k b.type_) :
  ∀(bs:List gP)(acc:List gH),(∀b∈bs,EO b.trait∧tok b.type_∧dyS b.type_∧tnd b.type_≤5)→acc.length+bs.length≤4→
  ∃r,zX (vK n) w [] ((d+1:Nat):Int) (o,0) (l,true) bs acc=some r∧uA (vI m) ⟨w,[]⟩ (12 - ((d+1:Nat):Int)) (o,0) (l,true) bs acc=some r∧(r.2=0→∃es,r.1=⟨1,0,o,acc++es⟩∧Al2 (fun b a=>EvS w all d ⟨b.trait,apT l b.type_⟩ a) bs es)
 | [],acc,_,_=>⟨_,rfl,rfl,fun _=>⟨[],by simp,.nil⟩⟩
 | b::bs,acc,h,ha=>by
   obtain⟨h1,y,h3,h4⟩:=h b (by simp);simp only [List.length_cons] at ha;have hb:bok l:=fun c hc=>(hl c hc).tok;have hpow:1≤5^k:=Nat.one_le_pow _ _ (by omega);have hbn:hP9 (5^k) l:=⟨hpow,fun c hc=>(hl c hc).sz⟩
   have hg:GI (k+1) (apT l b.type_):=by
    refine⟨gUx hb _ y,hFy (fun c hc=>(hl c hc).dy) _ h3,?_,?_⟩
    ·have e1:=gYf hbn b.type_;have e2:5^k*tnd b.type_≤5^k*5:=Nat.mul_le_mul_left _ h4;rw [Nat.pow_succ];omega
    ·have e1:=hNn (fun c hc=>(hl c hc).ed) b.type_;have e2:=gZs b.type_;omega
   obtain⟨r,r1,r2,r3⟩:=ih ⟨b.trait,apT l b.type_⟩ h1 hg;have w1:IntKind.i64.wrap (((d+1:Nat):Int) - 1)=(d:Int):=by rw [zV _ (by omega) (by omega)];omega
   have w2:IntKind.i64.wrap (12 - ((d+1:Nat):Int)+1)=12 - (d:Int):=by rw [zV _ (by omega) (by omega)];omega
   rw [zX,uA,qN ⟨hb,y⟩,qN ⟨hb,y⟩];simp only [lt_];rw [w1,w2,jV r1,jV r2];cases hc:(r.2 != 0)with
   | true=>exact⟨_,rfl,rfl,fun f=>by have f:r.2=0:=f;rw [f] at hc;cases hc⟩
   | false=>
     have hc0:r.2=0:=by simpa using hc
     simp only [gW];rw [qN (by simp;omega),qN (by simp;omega)];obtain⟨q,q1,q2,q3⟩:=hLl hk ih hl bs (acc++[r.1]) (fun c hc=>h c (by simp [hc])) (by simp;omega);refine⟨q,q1,q2,fun f=>?_⟩;obtain⟨es,e1,e2⟩:=q3 f;exact⟨r.1::es,by rw [e1];simp,.cons (r3 hc0) e2⟩
theorem hJb:∀(d k n m:Nat)(g:gP),d+k=12→2*d+2≤n→d < m→EO g.trait→GI k g.type_→∃r,vK n w [] g (d:Int)=some r∧vI m ⟨w,[]⟩ g (12 - (d:Int))=some r∧(r.2=0→EvS w all d g r.1):=by
 intro d
 induction d with
 | zero=>
   intro k n m g hk hn hm he hg;obtain⟨n,rfl⟩:∃i,n=i+1:=⟨n - 1,by omega⟩
   obtain⟨m,rfl⟩:∃i,m=i+1:=⟨m - 1,by omega⟩
   rw [vK,vI];unfold gE7 gCo;rw [jV (hLh g)];exact⟨_,rfl,rfl,fun h=>by cases h⟩
 | succ d ih=>
   intro k n m g hk hn hm he hg;obtain⟨n,rfl⟩:∃i,n=i+2:=⟨n - 2,by omega⟩
   obtain⟨m,rfl⟩:∃i,m=i+1:=⟨m - 1,by omega⟩
   have hpow:5^k≤5^12:=Nat.pow_le_pow_right (by omega) (by omega);have hp12:(5:Nat)^12=244140625:=by decide
   have hs:=hg.sz;have hd:=hg.ed;have sg:=hFb hw.toWI (g:=g) hg.tok (hLf (t:=g.type_) (by omega) (by omega));have ig:=hNa hw.toWI (g:=g) hg.tok (hP6 (t:=g.type_) (by omega) (by omega));obtain⟨t1,t2⟩:=hw.tra g.trait he;obtain⟨⟨p1,p2⟩,p3,p4⟩:=hw.dyn g.trait he;have key:∃r,gG5 (n+1) w [] g ((d+1:Nat):Int)=some r∧(bnd (gHn w g) fun f=>cnd (f.2 != 0) (some ((⟨0,0,⟨0,0⟩,[]⟩:gH),f.2)) (bnd (gFb w f.1) fun q=>bnd (gEr q.1.head g.type_) fun ad=>uA (vI m) ⟨w,[]⟩ (12 - ((d+1:Nat):Int)) f ad q.1.where_ []))=some r∧(r.2=0→EvS w all (d+1) g r.1):=by
    rw [gG5];unfold gKs;rw [jV sg,jV ig];cases hc:((hA4 w all (grT g.type_) g).2 != 0)with
    | true=>exact⟨_,rfl,rfl,fun h0=>by have h0:(hA4 w all (grT g.type_) g).2=0:=h0;rw [h0] at hc;cases hc⟩
    | false=>
      have hc0:(hA4 w all (grT g.type_) g).2=0:=by simpa using hc
      obtain⟨o,ho⟩:∃o,hA4 w all (grT g.type_) g=(o,0):=⟨(hA4 w all (grT g.type_) g).1,by rw [←hc0]⟩
      obtain⟨oa,i,l,i1,i2,i3⟩:=hFc ho;obtain⟨j,j1,j2,j3⟩:=hw.look o oa;obtain rfl:i=j:=Option.some.inj (i1.symm.trans j1);obtain⟨w1,w2⟩:=hw.whr o oa i i1 (by rw [i2];exact he);obtain⟨p,a1,a2⟩:=gLk i1;have hl:∀b∈l,GI k b.type_:=(gQu (Q:=GI k) (fun x hx y hy=>hx.args y hy) i.head g.type_ [] l hg (fun b hb=>by simp at hb) i3).1;rw [ho];simp only [gW];rw [jV a1,jV a2,gOv i.head g.type_ j3 hg.tok,i3,jV (gMd i1),jV (gXs j3 hg.tok i3)];simp only [bnd];obtain⟨r,r1,r2,r3⟩:=hLl hw (d:=d) (k:=k) (n:=n) (m:=m) (by omega) (fun g' h1 h2=>ih (k+1) n m g' (by omega) (by omega) (by omega) h1 h2) (o:=o) hl i.where_ [] w2 (by simpa using w1);refine⟨r,r1,r2,fun h0=>?_⟩;obtain⟨es,e1,e2⟩:=r3 h0;rw [e1,List.nil_append];exact⟨rfl,rfl,hg.tok,by omega,by omega,ho,i,l,i1,oa,i3,fun b hb=>(hl b hb).tok,w1,fun b hb=>(w2 b hb).2.1,e2⟩
   obtain⟨r,k1,k2,k3⟩:=key;rw [vK,vI];unfold gE7 gCo;rw [jV (hLh g)];have hf:mQ [] g= -1:=rfl;rw [hf,show decide ((-1:Int)≥0)=false from by decide];simp only [gW];rw [show decide (((d+1:Nat):Int)≤0)=false from decide_eq_false (by omega),show decide ((12:Int) - ((d+1:Nat):Int)≥12)=false from decide_eq_false (by omega)];simp only [gW,lt_,t1,t2];have hq:(cnd (gAp w g.trait).2.2 false false)=false:=by cases (gAp w g.trait).2.2<;>rfl
   rw [hq];simp only [gW];cases h1:(g.type_.kind==1)with
   | true=>exact⟨_,rfl,rfl,fun h=>by cases h⟩
   | false=>
     simp only [gW,hF0];cases h3:(g.type_.kind==3)with
     | true=>exact⟨_,rfl,rfl,fun h=>by cases h⟩
     | false=>
       simp only [gW];cases h4:(g.type_.kind==4)with
       | true=>
         have hn:g.type_.name=gFj:=gZt hg.dy h4;simp only [jQ];rw [hn,p2,p4];simp only [hF0,gW];rw [k1,k2];exact⟨r,rfl,rfl,k3⟩
       | false=>
         simp only [gW,gZu];rw [k1,k2];exact⟨r,rfl,rfl,k3⟩
end
end Go.Proofs.YtfpdlnkkcnmebaaGreat
