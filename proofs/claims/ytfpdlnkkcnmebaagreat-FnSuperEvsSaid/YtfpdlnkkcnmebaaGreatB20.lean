import Derived.Test.YtfpdlnkkcnmebaaGreatB19
set_option maxHeartbeats 4000000
set_option linter.unusedVariables false
set_option linter.unusedSimpArgs false
set_option linter.unusedSectionVars false
namespace Go.Proofs.YtfpdlnkkcnmebaaGreat
open Go Go.Eng
attribute [local irreducible] V VO VQ VY Quiet QR jF mJ Rng qI qJ qB
def zF(c:mE):List jD→LS→Option (Bool)
 | [],f=>lt_ ((cnd c.auto ((cnd c.assoc (true) ((cnd (decide ((c.signatures.length:Int) > 0)) (true) ((decide ((c.supertraits.length:Int) > 0))))))) (false))) fun h=>
(cnd h (
(some false)) (
bnd ((cnd (mO c.name) (bnd (yK c.supertraits 4) fun q=>
(cnd q (bnd (yK f 6) fun y=>
(some y)) ((some false)))) ((some false)))) fun aa=>
(some aa)))
 | x6::xs,f=>bnd (gSo x6) fun x7=>
(cnd (!x7) (
(some false)) (
gd (f.length+[x6.name].length≤4294967296) (
zF c xs (f++[x6.name]))))
def gDt(c:mE):Option (Bool):=
zF c c.signatures []
theorem gJu(a0:mE){r:Bool}(h:gDt a0=some r):jF Tryz.prog 211 [.d (gHg a0)] [.b r]:=by
 obtain⟨f,y,aa,ab,c⟩:=a0;unfold gDt at h;refine SpI Tryz.func211 fun A _=>?_;refine goL ?_;refine gB9 ?_;refine goL ?_;refine noB ?_;refine yP 0 4 (fun z4=>?_);refine kV (fun(y3:Nat)(y1:LS)(v2:Nat)=>⟨[(1,.ptr 0 0),(3,.sl 1 v2),(4,.N y3)],[bTr f y aa ab c,.own 9 1 v2 (gP y1)],Tryz.f211.ntmps⟩) (fun y3 y1 v2=>zF (mE.mk f y aa ab c) (c.drop y3) y1=some r) (fun y3 y1 v2=>c.length - y3) 0 [] 0 eJ h ?_;rintro y3 y1 v2 h;refine goL ?_;refine mQ (fun c5=>?_) (fun c5=>?_)
 ·have q:=vF c5;obtain⟨x6,ak,al⟩:=drop_at q;rw [al,zF.eq_2] at h;obtain⟨ag,a9,⟨ao,ap,aq⟩,ba,bb,⟨ar,au,av,aw,⟨ah,ai,aj⟩,ax,ay⟩⟩:=x6;refine noS ?_;refine kH (jE ?_);refine goL ?_;refine jK (jM y3 (gK3 ak)) ?_;obtain⟨x7,a5,h⟩:=gJ h;refine jK (gG (hEd _ a5)) ?_;refine mQ (fun c8=>?_) (fun c8=>?_)
  ·replace h:=kT c8 h;exact goR h
  ·replace h:=kU c8 h;refine goS ?_;refine jK (jM y3 (gK3 ak)) ?_;refine yF ag ?_;obtain⟨g9,h⟩:=pO h;refine gDn g9 ?_;refine goL ?_;refine jK (kD y3 (by omega)) ?_;exact⟨(y3+1),(y1++[ag]),(v2+1),h,by omega,eJ⟩
 ·have q:=vG c5;rw [jH q,zF.eq_1] at h;refine goX ?_;obtain⟨a7,hb10,h⟩:=qW h;refine kC ⟨[(1,.ptr 0 0),(3,.sl 1 v2),(46,.B a7)],[bTr f y aa ab c,.own 9 1 v2 (gP y1)],Tryz.f211.ntmps⟩ ?_ ?_
  ·refine gqA 31 hb10 (fun be hb10=>?_);refine gqO 34 hb10 (fun bf hb10=>?_);exact gqZ 40 hb10
  refine goC h ?_ ?_<;>intro bg h
  ·exact goR h
  ·refine goS ?_;refine jK (gG (qR f)) ?_;obtain⟨a8,hb15,h⟩:=gJ h;refine kC ⟨[(2,.B a8)],[bTr f y aa ab c,.own 9 1 v2 (gP y1)],Tryz.f211.ntmps⟩ ?_ ?_
   ·refine gqA 50 hb15 (fun bh hb15=>?_);obtain⟨bi,am,hb15⟩:=gJ hb15;refine jK (gG (zU _ _ am)) ?_;refine gqA 55 hb15 (fun bj hb15=>?_);obtain⟨bk,an,hb15⟩:=gJ hb15;refine gAc (gUo (zU y1 6 an)) ?_;cases hb15;exact eJ
   exact goR h
def vY(y:gD)(x1:gD)(x3:LS):List gD→(List gZ)→Option (kP × Bool)
 | [],c=>bnd (bnd (uC y) fun ac=>
(cnd (!ac) ((some true)) ((cnd ((y.list.length:Int)==0) ((some true)) (bnd (gDs (kP.mk x1.atom x3 c)) fun ad=>
bnd (gB6 5000 ad y) fun ae=>
(some (!ae))))))) fun ag=>
(cnd ag (
(some ((kP.mk [] [] []),false))) (
(some ((kP.mk x1.atom x3 c),true))))
 | f::xs,c=>bnd (uB f 0) fun h=>
bnd (gH8 f 1) fun ah=>
bnd (gOm ah) fun q=>
gd (c.length+[(gZ.mk h.atom q)].length≤4294967296) (
vY y x1 x3 xs (c++[(gZ.mk h.atom q)]))
def gDu(c:gD):Option (kP × Bool):=
bnd (uB c 1) fun f=>
bnd (uB c 2) fun h=>
bnd (gB7 h) fun q=>
bnd (gH8 c 3) fun y=>
vY c f q y []
theorem gL2(a0:gD){r:kP × Bool}(h:gDu a0=some r):jF Tryz.prog 188 [.d (qC a0)] [gD6 r.1,.b r.2]:=by
 obtain⟨q,y⟩:=a0;unfold gDu at h;refine SpI Tryz.func188 fun A _=>?_;refine gHi ?_;refine jL (P:=Tryz.prog) Mix.h [(0,true),(1,true),(2,true),(3,true),(4,true),(5,true),(6,true),(7,false),(8,false)] (by kernel_rfl) ?_;refine goY ?_;obtain⟨⟨f,aj⟩,av,h⟩:=gJ h;refine jO rfl (gG (uI _ _ av)) ?_;refine jO rfl (gHj) ?_;refine goY ?_;obtain⟨⟨bd,be⟩,aw,h⟩:=gJ h;refine jO rfl (gG (uI _ _ aw)) ?_;obtain⟨x3,ax,h⟩:=gJ h;refine jO rfl (gG (gEn _ ax)) ?_;refine goY ?_;refine kX ?_;refine goL ?_;obtain⟨x4,a3,h⟩:=gJ h;refine jK (gG (gL8 _ _ a3)) ?_;refine noB ?_;refine uO 188 2 2 2 rfl rfl (by repeat constructor) (by repeat constructor) (by repeat constructor) (by repeat constructor) ?_;show V _ _ _ _ _;refine gCm 5 (fun z8=>?_);refine kV (fun(y7:Nat)(y5:List gZ)(v6:Nat)=>⟨[(1,.ptr 0 0),(2,.ptr 1 0),(4,.ptr 2 0),(5,.L 2 (jA x4)),(6,.N y7)],[bSx q y,.box [.S [],.nilsl,.nilsl],.box [.S f,.L 1 (gP x3),.sl 3 v6],.arr 188 2 v6 (mY y5)],Tryz.f188.ntmps⟩) (fun y7 y5 v6=>vY (gD.mk q y) (gD.mk f aj) x3 (x4.drop y7) y5=some r) (fun y7 y5 v6=>x4.length - y7) 0 [] 0 eJ h ?_;rintro y7 y5 v6 h;refine goL ?_;refine mQ (fun c9=>?_) (fun c9=>?_)
 ·have c:=vF c9;obtain⟨a5,ae,ag⟩:=drop_at c;rw [ag,vY.eq_2] at h;obtain⟨a6,a7⟩:=a5;refine noS ?_;refine kH (jE ?_);refine vP (P:=Tryz.prog) Mix.h [(0,true),(1,true),(2,true),(3,true),(4,true),(5,true),(6,true),(7,true),(8,true),(9,true),(10,true),(11,true),(12,true),(13,true),(14,true),(15,false),(16,false),(17,true),(18,false)] (by kernel_rfl) ?_;refine goY ?_;refine jO rfl (jM y7 (uM ae)) ?_;refine goY ?_;obtain⟨⟨aa,a8⟩,ak,h⟩:=gJ h;refine jO rfl (gG (uI _ _ ak)) ?_;refine jO rfl (gHj) ?_;refine goY ?_;refine jO rfl (jM y7 (uM ae)) ?_;refine goY ?_;obtain⟨bf,al,h⟩:=gJ h;refine jO rfl (gG (gL8 _ _ al)) ?_;obtain⟨am,an,h⟩:=gJ h;refine jO rfl (gG (gXa _ an)) ?_;refine goY ?_;refine jT (T:=169) (us:=mY [(gZ.mk aa am)]) ?_;obtain⟨a9,h⟩:=pO h;refine jR (T:=169) a9 ?_;refine goY ?_;refine kX ?_;refine goL ?_;refine jK (kD y7 (by omega)) ?_;exact⟨(y7+1),(y5++[(gZ.mk aa am)]),(v6+1),h,by omega,eJ⟩
 ·have c:=vG c9;rw [jH c,vY.eq_1] at h;refine noX ?_;refine gHi ?_;refine gW 3 rfl rfl ?_;obtain⟨ba,hb15,h⟩:=gJ h;refine uT (P:=Tryz.prog) Mix.h ⟨[(2,.ptr 1 0),(4,.ptr 2 0),(55,.B ba)],[bSx q y,.box [.S [],.nilsl,.nilsl],.box [.S f,.L 1 (gP x3),.sl 3 v6],.frz 188 2 v6 (mY y5)],Tryz.f188.ntmps⟩ (by kernel_rfl) ?_ ?_
  ·refine goL ?_;obtain⟨bg,ao,hb15⟩:=gJ hb15;refine gCy (gG (yT _ ao)) ?_;refine goL ?_;refine wN 43 (fun ah=>?_) (fun ah=>?_)
   ·replace hb15:=kT ah hb15;refine goL ?_;cases hb15;exact eJ
   ·replace hb15:=kU ah hb15;refine goL ?_;refine wN 49 (fun ai=>?_) (fun ai=>?_)
    ·replace hb15:=kT ai hb15;refine goL ?_;cases hb15;exact eJ
    ·replace hb15:=kU ai hb15;refine goL ?_;obtain⟨⟨bb,bc⟩,ap,hb15⟩:=gJ hb15;refine hBo (gRj (gL1 (kP.mk f x3 y5) ap)) ?_;refine goL ?_;obtain⟨bh,aq,hb15⟩:=gJ hb15;refine gEa (gG (gF6 _ _ _ aq)) ?_;refine goL ?_;cases hb15;exact eJ
  refine goC h ?_ ?_<;>intro bi h
  ·refine goL ?_;refine yS (jU TBd.h TZ.h rfl (by repeat constructor)) ?_;exact goR h
  ·refine goS ?_;refine jG ?_;cases h;exact uA
def vZ(h:gD):List gX→(List gD)→Option (gD)
 | [],c=>bnd (gM6 true (gD.mk h.atom c)) fun y=>
(some y)
 | f::xs,c=>lt_ (mP f.name) fun aa=>
bnd (gA6 f.vars) fun ab=>
bnd (gLz 5000 f.body) fun ac=>
bnd (gHu [aa,ab,ac]) fun q=>
gd (c.length+[q].length≤4294967296) (
vZ h xs (c++[q]))
def gDv(c:gY):Option (gD):=
bnd (gBe c) fun x1=>
(cnd (!x1) (
(some (gD.mk [] []))) (
bnd ((cnd c.default_ (
gd (([]:LS).length+([[100,101,102,97,117,108,116]]:LS).length≤4294967296) (
(some ([]++[[100,101,102,97,117,108,116]])))) (
(some [])))) fun b3=>
bnd ((cnd c.hasAssoc (
bnd (gLi 5000 c.assoc) fun x9=>
bnd (gHu [x9]) fun f=>
(some (f.atom,f.list))) (
(some ([],[]))))) fun b7=>
lt_ (mP [105,110,115,116]) fun q=>
lt_ (mP c.trait) fun y=>
bnd (gA6 c.vars) fun aa=>
bnd (gLi 5000 c.head) fun ab=>
bnd (gLd c.where_) fun ac=>
bnd (gA6 b3) fun ad=>
bnd (gIl [q,y,aa,ab,ac,ad,(gD.mk b7.1 b7.2)]) fun h=>
vZ h c.methods h.list))
theorem gL3(a0:gY){r:gD}(h:gDv a0=some r):jF Tryz.prog 207 [.d (yX a0)] [qC r]:=by
 obtain⟨a4,ax,⟨an,ao,ap⟩,av,a5,a6,⟨aq,ar,au⟩,a3⟩:=a0;unfold gDv at h;refine SpI Tryz.func207 fun A _=>?_;refine goL ?_;obtain⟨x1,ci,h⟩:=gJ h;refine jK (gG (gHb _ ci)) ?_;refine mQ (fun c2=>?_) (fun c2=>?_)
 ·replace h:=kT c2 h;refine goL ?_;refine yS (jU TBd.h TZ.h rfl (by repeat constructor)) ?_;exact goR h
 ·replace h:=kU c2 h;refine goS ?_;refine gB9 ?_;refine goL ?_;obtain⟨b3,hb3,h⟩:=gJ h;refine gIx (fun v4=>⟨[(1,.ptr 0 0),(2,.ptr 1 0),(3,.sl 2 v4)],[bIn a4 ax an ao ap av a5 a6 aq ar au a3,.box [.S [],.nilsl],.own 9 1 v4 (gP b3)],Tryz.f207.ntmps⟩) ?_ (fun v4=>?_)
  ·refine mQ (fun c5=>?_) (fun c5=>?_)
   ·replace hb3:=kT c5 hb3;refine goL ?_;refine yF ([100,101,102,97,117,108,116]:LB) ?_;obtain⟨g6,hb3⟩:=pO hb3;refine gDn g6 ?_;refine goL ?_;cases hb3;exact⟨(0+1),eJ⟩
   ·replace hb3:=kU c5 hb3;refine yE ?_;cases hb3;exact⟨0,eJ⟩
  refine goL ?_;refine gAc (jU TBd.h TZ.h rfl (by repeat constructor)) ?_;refine gR0 2 3 1 rfl rfl (by repeat constructor) (by repeat constructor) ?_;obtain⟨⟨c,f⟩,hb7,h⟩:=gJ h;refine gAn ⟨[(1,.ptr 0 0),(2,.ptr 1 0),(3,.sl 2 v4),(4,.ptr 3 0)],[bIn a4 ax an ao ap av a5 a6 aq ar au a3,.box [.S [],.nilsl],.own 9 1 v4 (gP b3),bSx c f],Tryz.f207.ntmps⟩ ?_ ?_
  ·refine mQ (fun c8=>?_) (fun c8=>?_)
   ·replace hb7:=kT c8 hb7;refine goL ?_;obtain⟨⟨b1,b2⟩,cm,hb7⟩:=gJ hb7;refine qM (gG (gJk _ _ cm)) ?_;refine uQ (u:=(.st [.s b1,.sl 2 (jA b2)])) ?_;refine mD 4 rfl rfl ?_;refine gZb ?_;obtain⟨⟨cn,co⟩,b8,hb7⟩:=gJ hb7;refine gAc (gRj (gLc [(gD.mk b1 b2)] b8)) ?_;cases hb7;exact eJ
   ·replace hb7:=kU c8 hb7;refine yE ?_;cases hb7;exact eJ
  refine gHi ?_;refine mI 2 rfl rfl ?_;refine hOu ?_;obtain⟨⟨y,aa⟩,b9,h⟩:=qW h;have sx11:=pF [105,110,115,116];rw [b9] at sx11;obtain⟨⟨ab,ac⟩,ca,h⟩:=qW h;have sx12:=pF a4;rw [ca] at sx12;obtain⟨⟨ad,ae⟩,bj,h⟩:=gJ h;obtain⟨⟨ah,ai⟩,bd,h⟩:=gJ h;obtain⟨⟨aj,ak⟩,ba,h⟩:=gJ h;obtain⟨⟨al,am⟩,a8,h⟩:=gJ h;obtain⟨⟨aw,ay⟩,a7,h⟩:=gJ h;refine zK (P:=Tryz.prog) Mix.h (.q 1 (.q 2 (.q 4 (.q 5 (.q 7 (.q 8 (.q 10 (.q 11 (.q 13 (.q 15 (.h 0 (.h 3 (.h 6 (.h 9 (.h 12 (.h 14 (.h 16 (.h 17 (.h 18 (.h 19 .nil .nil) .nil) (.h 18 (.h 17 (.h 19 .nil .nil) .nil) .nil)) (.h 18 (.h 16 (.h 17 (.h 19 .nil .nil) .nil) .nil) .nil)) (.h 18 (.h 14 (.h 16 (.h 17 (.h 19 .nil .nil) .nil) .nil) .nil) .nil)) (.h 18 (.h 12 (.h 14 (.h 16 (.h 17 (.h 19 .nil .nil) .nil) .nil) .nil) .nil) .nil)) (.h 18 (.h 9 (.h 12 (.h 14 (.h 16 (.h 17 (.h 19 .nil .nil) .nil) .nil) .nil) .nil) .nil) .nil)) (.h 18 (.h 6 (.h 9 (.h 12 (.h 14 (.h 16 (.h 17 (.h 19 .nil .nil) .nil) .nil) .nil) .nil) .nil) .nil) .nil)) (.h 18 (.h 3 (.h 6 (.h 9 (.h 12 (.h 14 (.h 16 (.h 17 (.h 19 .nil .nil) .nil) .nil) .nil) .nil) .nil) .nil) .nil) .nil)) (.h 18 (.h 0 (.h 3 (.h 6 (.h 9 (.h 12 (.h 14 (.h 16 (.h 17 (.h 19 .nil .nil) .nil) .nil) .nil) .nil) .nil) .nil) .nil) .nil) .nil)))))))))))) ⟨[(1,.ptr 0 0),(2,.ptr 1 0),(5,.ptr 6 0)],[bIn a4 ax an ao ap av a5 a6 aq ar au a3,.box [.S [],.nilsl],.frz 9 1 v4 (gP b3),bSx c f,.frz 223 2 0 (jA [(gD.mk y aa),(gD.mk ab ac),(gD.mk ad ae),(gD.mk ah ai),(gD.mk aj ak),(gD.mk al am),(gD.mk c f)]),.arr 223 2 0 (jA ay),.box [.S aw,.sl 5 0]],Tryz.f207.ntmps⟩ (by kernel_rfl) ?_ ?_
  ·refine goT ?_;refine pR (qK (sx11) gQ) ?_ ?_
   ·refine pR (qK (sx12) gQ) ?_ ?_
    ·refine pR (qK (uU ax bj) gQ) ?_ ?_
     ·refine pR (qK (gJk 5000 (gB.mk an ao ap) bd) gQ) ?_ ?_
      ·refine pR (qK (gE4 av ba) gQ) ?_ ?_
       ·refine pR (qK (uU b3 a8) gQ) ?_ ?_
        ·refine pR (jT (T:=221) (us:=jA [(gD.mk y aa),(gD.mk ab ac),(gD.mk ad ae),(gD.mk ah ai),(gD.mk aj ak),(gD.mk al am),(gD.mk c f)]) gQ) ?_ ?_
         ·refine pR (mG 4 rfl rfl (gCn (sv:=.ag [.S aw,.sl 5 0]) (L':=[bIn a4 ax an ao ap av a5 a6 aq ar au a3,.box [.S [],.nilsl],.frz 9 1 v4 (gP b3),bSx c f,.frz 223 2 0 (jA [(gD.mk y aa),(gD.mk ab ac),(gD.mk ad ae),(gD.mk ah ai),(gD.mk aj ak),(gD.mk al am),(gD.mk c f)]),.arr 223 2 0 (jA ay)]) [] (vK [(gD.mk y aa),(gD.mk ab ac),(gD.mk ad ae),(gD.mk ah ai),(gD.mk aj ak),(gD.mk al am),(gD.mk c f)] a7) gQ)) ?_ ?_
          ·refine goT ?_;refine jB ?_;exact mK 0 [0,1,2,3,4,5,6]
          refine goT ?_;refine gH (mG 4 rfl rfl (gCn (sv:=.ag [.S aw,.sl 6 0]) (L':=[bIn a4 ax an ao ap av a5 a6 aq ar au a3,.box [.S [],.nilsl],.frz 9 1 v4 (gP b3),bSx c f,.frz 223 2 0 (jA [(gD.mk y aa),(gD.mk ab ac),(gD.mk ad ae),(gD.mk ah ai),(gD.mk aj ak),(gD.mk al am),(gD.mk c f)]),.box [.S [],.nilsl],.arr 223 2 0 (jA ay)]) [] (vK [(gD.mk y aa),(gD.mk ab ac),(gD.mk ad ae),(gD.mk ah ai),(gD.mk aj ak),(gD.mk al am),(gD.mk c f)] a7) gQ)) ?_;refine goT ?_;refine jB ?_;exact mK 0 [0,1,2,3,4,6,5]
         refine goT ?_;refine gH (jT (T:=221) (us:=jA [(gD.mk y aa),(gD.mk ab ac),(gD.mk ad ae),(gD.mk ah ai),(gD.mk aj ak),(gD.mk al am),(gD.mk c f)]) gQ) ?_;refine gH (mG 5 rfl rfl (gCn (sv:=.ag [.S aw,.sl 6 0]) (L':=[bIn a4 ax an ao ap av a5 a6 aq ar au a3,.box [.S [],.nilsl],.frz 9 1 v4 (gP b3),bSx c f,.box [.S [],.nilsl],.frz 223 2 0 (jA [(gD.mk y aa),(gD.mk ab ac),(gD.mk ad ae),(gD.mk ah ai),(gD.mk aj ak),(gD.mk al am),(gD.mk c f)]),.arr 223 2 0 (jA ay)]) [] (vK [(gD.mk y aa),(gD.mk ab ac),(gD.mk ad ae),(gD.mk ah ai),(gD.mk aj ak),(gD.mk al am),(gD.mk c f)] a7) gQ)) ?_;refine goT ?_;refine jB ?_;exact mK 0 [0,1,2,3,5,6,4]
        refine goT ?_;refine gH (qK (uU b3 a8) gQ) ?_;refine gH (jT (T:=221) (us:=jA [(gD.mk y aa),(gD.mk ab ac),(gD.mk ad ae),(gD.mk ah ai),(gD.mk aj ak),(gD.mk al am),(gD.mk c f)]) gQ) ?_;refine gH (mG 5 rfl rfl (gCn (sv:=.ag [.S aw,.sl 6 0]) (L':=[bIn a4 ax an ao ap av a5 a6 aq ar au a3,.box [.S [],.nilsl],.frz 9 1 v4 (gP b3),bSx c f,.box [.S [],.nilsl],.frz 223 2 0 (jA [(gD.mk y aa),(gD.mk ab ac),(gD.mk ad ae),(gD.mk ah ai),(gD.mk aj ak),(gD.mk al am),(gD.mk c f)]),.arr 223 2 0 (jA ay)]) [] (vK [(gD.mk y aa),(gD.mk ab ac),(gD.mk ad ae),(gD.mk ah ai),(gD.mk aj ak),(gD.mk al am),(gD.mk c f)] a7) gQ)) ?_;refine goT ?_;refine jB ?_;exact mK 0 [0,1,2,3,5,6,4]
       refine goT ?_;refine gH (qK (gE4 av ba) gQ) ?_;refine gH (qK (uU b3 a8) gQ) ?_;refine gH (jT (T:=221) (us:=jA [(gD.mk y aa),(gD.mk ab ac),(gD.mk ad ae),(gD.mk ah ai),(gD.mk aj ak),(gD.mk al am),(gD.mk c f)]) gQ) ?_;refine gH (mG 5 rfl rfl (gCn (sv:=.ag [.S aw,.sl 6 0]) (L':=[bIn a4 ax an ao ap av a5 a6 aq ar au a3,.box [.S [],.nilsl],.frz 9 1 v4 (gP b3),bSx c f,.box [.S [],.nilsl],.frz 223 2 0 (jA [(gD.mk y aa),(gD.mk ab ac),(gD.mk ad ae),(gD.mk ah ai),(gD.mk aj ak),(gD.mk al am),(gD.mk c f)]),.arr 223 2 0 (jA ay)]) [] (vK [(gD.mk y aa),(gD.mk ab ac),(gD.mk ad ae),(gD.mk ah ai),(gD.mk aj ak),(gD.mk al am),(gD.mk c f)] a7) gQ)) ?_;refine goT ?_;refine jB ?_;exact mK 0 [0,1,2,3,5,6,4]
      refine goT ?_;refine gH (qK (gJk 5000 (gB.mk an ao ap) bd) gQ) ?_;refine gH (qK (gE4 av ba) gQ) ?_;refine gH (qK (uU b3 a8) gQ) ?_;refine gH (jT (T:=221) (us:=jA [(gD.mk y aa),(gD.mk ab ac),(gD.mk ad ae),(gD.mk ah ai),(gD.mk aj ak),(gD.mk al am),(gD.mk c f)]) gQ) ?_;refine gH (mG 5 rfl rfl (gCn (sv:=.ag [.S aw,.sl 6 0]) (L':=[bIn a4 ax an ao ap av a5 a6 aq ar au a3,.box [.S [],.nilsl],.frz 9 1 v4 (gP b3),bSx c f,.box [.S [],.nilsl],.frz 223 2 0 (jA [(gD.mk y aa),(gD.mk ab ac),(gD.mk ad ae),(gD.mk ah ai),(gD.mk aj ak),(gD.mk al am),(gD.mk c f)]),.arr 223 2 0 (jA ay)]) [] (vK [(gD.mk y aa),(gD.mk ab ac),(gD.mk ad ae),(gD.mk ah ai),(gD.mk aj ak),(gD.mk al am),(gD.mk c f)] a7) gQ)) ?_;refine goT ?_;refine jB ?_;exact mK 0 [0,1,2,3,5,6,4]
     refine goT ?_;refine gH (qK (uU ax bj) gQ) ?_;refine gH (qK (gJk 5000 (gB.mk an ao ap) bd) gQ) ?_;refine gH (qK (gE4 av ba) gQ) ?_;refine gH (qK (uU b3 a8) gQ) ?_;refine gH (jT (T:=221) (us:=jA [(gD.mk y aa),(gD.mk ab ac),(gD.mk ad ae),(gD.mk ah ai),(gD.mk aj ak),(gD.mk al am),(gD.mk c f)]) gQ) ?_;refine gH (mG 5 rfl rfl (gCn (sv:=.ag [.S aw,.sl 6 0]) (L':=[bIn a4 ax an ao ap av a5 a6 aq ar au a3,.box [.S [],.nilsl],.frz 9 1 v4 (gP b3),bSx c f,.box [.S [],.nilsl],.frz 223 2 0 (jA [(gD.mk y aa),(gD.mk ab ac),(gD.mk ad ae),(gD.mk ah ai),(gD.mk aj ak),(gD.mk al am),(gD.mk c f)]),.arr 223 2 0 (jA ay)]) [] (vK [(gD.mk y aa),(gD.mk ab ac),(gD.mk ad ae),(gD.mk ah ai),(gD.mk aj ak),(gD.mk al am),(gD.mk c f)] a7) gQ)) ?_;refine goT ?_;refine jB ?_;exact mK 0 [0,1,2,3,5,6,4]
    refine goT ?_;refine gH (qK (sx12) gQ) ?_;refine gH (qK (uU ax bj) gQ) ?_;refine gH (qK (gJk 5000 (gB.mk an ao ap) bd) gQ) ?_;refine gH (qK (gE4 av ba) gQ) ?_;refine gH (qK (uU b3 a8) gQ) ?_;refine gH (jT (T:=221) (us:=jA [(gD.mk y aa),(gD.mk ab ac),(gD.mk ad ae),(gD.mk ah ai),(gD.mk aj ak),(gD.mk al am),(gD.mk c f)]) gQ) ?_;refine gH (mG 5 rfl rfl (gCn (sv:=.ag [.S aw,.sl 6 0]) (L':=[bIn a4 ax an ao ap av a5 a6 aq ar au a3,.box [.S [],.nilsl],.frz 9 1 v4 (gP b3),bSx c f,.box [.S [],.nilsl],.frz 223 2 0 (jA [(gD.mk y aa),(gD.mk ab ac),(gD.mk ad ae),(gD.mk ah ai),(gD.mk aj ak),(gD.mk al am),(gD.mk c f)]),.arr 223 2 0 (jA ay)]) [] (vK [(gD.mk y aa),(gD.mk ab ac),(gD.mk ad ae),(gD.mk ah ai),(gD.mk aj ak),(gD.mk al am),(gD.mk c f)] a7) gQ)) ?_;refine goT ?_;refine jB ?_;exact mK 0 [0,1,2,3,5,6,4]
   refine goT ?_;refine gH (qK (sx11) gQ) ?_;refine gH (qK (sx12) gQ) ?_;refine gH (qK (uU ax bj) gQ) ?_;refine gH (qK (gJk 5000 (gB.mk an ao ap) bd) gQ) ?_;refine gH (qK (gE4 av ba) gQ) ?_;refine gH (qK (uU b3 a8) gQ) ?_;refine gH (jT (T:=221) (us:=jA [(gD.mk y aa),(gD.mk ab ac),(gD.mk ad ae),(gD.mk ah ai),(gD.mk aj ak),(gD.mk al am),(gD.mk c f)]) gQ) ?_;refine gH (mG 5 rfl rfl (gCn (sv:=.ag [.S aw,.sl 6 0]) (L':=[bIn a4 ax an ao ap av a5 a6 aq ar au a3,.box [.S [],.nilsl],.frz 9 1 v4 (gP b3),bSx c f,.box [.S [],.nilsl],.frz 223 2 0 (jA [(gD.mk y aa),(gD.mk ab ac),(gD.mk ad ae),(gD.mk ah ai),(gD.mk aj ak),(gD.mk al am),(gD.mk c f)]),.arr 223 2 0 (jA ay)]) [] (vK [(gD.mk y aa),(gD.mk ab ac),(gD.mk ad ae),(gD.mk ah ai),(gD.mk aj ak),(gD.mk al am),(gD.mk c f)] a7) gQ)) ?_;refine goT ?_;refine jB ?_;exact mK 0 [0,1,2,3,5,6,4]
  refine goL ?_;refine noB ?_;refine yP 0 11 (fun cu=>?_);refine kV (fun(bb:Nat)(bf:List gD)(bk:Nat)=>⟨[(1,.ptr 0 0),(2,.ptr 1 0),(5,.ptr 6 0),(6,.N bb)],[bIn a4 ax an ao ap av a5 a6 aq ar au a3,.box [.S [],.nilsl],.frz 9 1 v4 (gP b3),bSx c f,.frz 223 2 0 (jA [(gD.mk y aa),(gD.mk ab ac),(gD.mk ad ae),(gD.mk ah ai),(gD.mk aj ak),(gD.mk al am),(gD.mk c f)]),.arr 223 2 bk (jA bf),.box [.S aw,.sl 5 bk]],Tryz.f207.ntmps⟩) (fun bb bf bk=>vZ (gD.mk aw ay) (a3.drop bb) bf=some r) (fun bb bf bk=>a3.length - bb) 0 ay 0 eJ h ?_;rintro bb bf bk h;refine goL ?_;refine mQ (fun b4=>?_) (fun b4=>?_)
  ·have bc:=vF b4;obtain⟨cp,cb,b5⟩:=drop_at bc;rw [b5,vZ.eq_2] at h;obtain⟨b6,b7,⟨bl,bm,bn,bo,⟨bg,bh,bi⟩,bp,bq⟩⟩:=cp;refine noS ?_;refine kH (jE ?_);refine goL ?_;refine qM (jM bb (gWe cb)) ?_;refine gHi ?_;refine vP (P:=Tryz.prog) Mix.h [(0,true),(1,true),(2,true),(3,true),(5,true),(6,true),(8,true),(9,true),(4,false),(7,false),(10,false),(11,false),(12,false),(13,false),(14,false),(15,true),(16,false)] (by kernel_rfl) ?_;refine goY ?_;obtain⟨⟨br,bt⟩,cc,h⟩:=qW h;have sx24:=pF b6;rw [cc] at sx24;refine qK (sx24) ?_;obtain⟨⟨bu,bv⟩,cd,h⟩:=gJ h;refine qK (uU b7 cd) ?_;obtain⟨⟨bw,bx⟩,ce,h⟩:=gJ h;refine qK (gW7 5000 (gU.mk bl bm bn bo (gB.mk bg bh bi) bp bq) ce) ?_;refine jT (T:=221) (us:=jA [(gD.mk br bt),(gD.mk bu bv),(gD.mk bw bx)]) ?_;refine mG 8 rfl rfl ?_;obtain⟨⟨bz,b0⟩,cf,h⟩:=gJ h;refine qK (gLc [(gD.mk br bt),(gD.mk bu bv),(gD.mk bw bx)] cf) ?_;refine jT (T:=221) (us:=jA [(gD.mk bz b0)]) ?_;obtain⟨cq,h⟩:=pO h;refine jR (T:=221) cq ?_;refine goY ?_;refine kX ?_;refine goL ?_;refine jK (kD bb (by omega)) ?_;exact⟨(bb+1),(bf++[(gD.mk bz b0)]),(bk+1),h,by omega,eJ⟩
  ·have bc:=vG b4;rw [jH bc,vZ.eq_1] at h;refine goX ?_;refine mD 5 rfl rfl ?_;refine gZb ?_;obtain⟨⟨cr,cs⟩,cg,h⟩:=gJ h;refine yS (gRj (gSn true (gD.mk aw bf) cg)) ?_;exact goR h
def wB(c:kI):List uG→(List gD)→Option (gD)
 | [],h=>lt_ (mP [102,110]) fun q=>
lt_ (mP c.name) fun y=>
bnd (gA6 c.vars) fun aa=>
bnd (gLd c.where_) fun ab=>
bnd (gLi 5000 c.result) fun ac=>
bnd (gLz 5000 c.body) fun ad=>
bnd (gHu [q,y,aa,ab,(gD.mk [] h),ac,ad]) fun ae=>
bnd (gM6 true ae) fun ag=>
(some ag)
 | x8::xs,h=>lt_ (mP x8.name) fun x9=>
bnd (gLi 5000 x8.type_) fun ah=>
bnd (gHu [x9,ah]) fun f=>
gd (h.length+[f].length≤4294967296) (
wB c xs (h++[f]))
def gDw(c:kI):Option (gD):=
bnd (gBf c) fun f=>
(cnd (!f) (
(some (gD.mk [] []))) (
wB c c.params []))
theorem gL4(a0:kI){r:gD}(h:gDw a0=some r):jF Tryz.prog 208 [.d (gD7 a0)] [qC r]:=by
 obtain⟨al,am,an,aj,⟨y,aa,ab⟩,⟨ac,ad,ae,ag,⟨c,f,q⟩,ah,ai⟩⟩:=a0;unfold gDw at h;refine SpI Tryz.func208 fun A _=>?_;refine goL ?_;obtain⟨x1,b0,h⟩:=gJ h;refine jK (gG (gHc (kI.mk al am an aj (gB.mk y aa ab) (gU.mk ac ad ae ag (gB.mk c f q) ah ai)) b0)) ?_;refine mQ (fun c2=>?_) (fun c2=>?_)
 ·replace h:=kT c2 h;refine goL ?_;refine yS (jU TBd.h TZ.h rfl (by repeat constructor)) ?_;exact goR h
 ·replace h:=kU c2 h;refine goS ?_;refine gAc (jU TBd.h TZ.h rfl (by repeat constructor)) ?_;refine noB ?_;refine uO 223 2 2 1 rfl rfl (by repeat constructor) (by repeat constructor) (by repeat constructor) (by repeat constructor) ?_;show V _ _ _ _ _;refine yP 0 3 (fun z6=>?_);refine kV (fun(y5:Nat)(y3:List gD)(v4:Nat)=>⟨[(1,.ptr 0 0),(2,.ptr 1 0),(3,.ptr 2 0),(4,.N y5)],[.box [.S al,.L 1 (gP am),.L 4 (jQ an),.L 4 (uS aj),.I y,.S aa,.L 3 (gK ab),.I ac,.S ad,.S ae,.I ag,.I c,.S f,.L 3 (gK q),.L 9 (jS ah),.L 11 (mW ai)],.box [.S [],.nilsl],.box [.S [],.sl 3 v4],.arr 223 2 v4 (jA y3)],Tryz.f208.ntmps⟩) (fun y5 y3 v4=>wB (kI.mk al am an aj (gB.mk y aa ab) (gU.mk ac ad ae ag (gB.mk c f q) ah ai)) (aj.drop y5) y3=some r) (fun y5 y3 v4=>aj.length - y5) 0 [] 0 eJ h ?_;rintro y5 y3 v4 h;refine goL ?_;refine mQ (fun c7=>?_) (fun c7=>?_)
  ·have ak:=vF c7;obtain⟨x8,bk,bl⟩:=drop_at ak;rw [bl,wB.eq_2] at h;obtain⟨bm,⟨bb,bc,bd⟩⟩:=x8;refine noS ?_;refine kH (jE ?_);refine vP (P:=Tryz.prog) Mix.h [(0,true),(1,true),(2,true),(3,true),(4,true),(5,true),(6,true),(7,true),(9,true),(10,true),(11,true),(12,true),(13,true),(14,true),(8,false),(15,false),(16,false),(17,false),(18,false),(19,false),(20,true),(21,false)] (by kernel_rfl) ?_;refine goY ?_;refine jO rfl (jM y5 (gXp bk)) ?_;refine goY ?_;refine jO rfl (jM y5 (gXp bk)) ?_;refine goY ?_;obtain⟨⟨bf,bg⟩,b3,h⟩:=qW h;have sx9:=pF bm;rw [b3] at sx9;refine qK (sx9) ?_;obtain⟨⟨ao,ap⟩,bn,h⟩:=gJ h;refine qK (gJk 5000 (gB.mk bb bc bd) bn) ?_;refine jT (T:=221) (us:=jA [(gD.mk bf bg),(gD.mk ao ap)]) ?_;refine mG 4 rfl rfl ?_;obtain⟨⟨aq,ar⟩,bo,h⟩:=gJ h;refine qK (gLc [(gD.mk bf bg),(gD.mk ao ap)] bo) ?_;refine jT (T:=221) (us:=jA [(gD.mk aq ar)]) ?_;obtain⟨b4,h⟩:=pO h;refine jR (T:=221) b4 ?_;refine goY ?_;refine kX ?_;refine goL ?_;refine jK (kD y5 (by omega)) ?_;exact⟨(y5+1),(y3++[(gD.mk aq ar)]),(v4+1),h,by omega,eJ⟩
  ·have ak:=vG c7;rw [jH ak,wB.eq_1] at h;refine noX ?_;refine gW 3 rfl rfl ?_;refine hMk ?_;refine jL (P:=Tryz.prog) Mix.h [(1,true),(2,true),(4,true),(5,true),(7,true),(8,true),(10,true),(11,true),(12,true),(14,true),(15,true),(0,false),(3,false),(6,false),(9,false),(13,false),(16,false),(17,false),(18,false),(19,false),(20,false)] (by kernel_rfl) ?_;refine goY ?_;obtain⟨⟨au,av⟩,bp,h⟩:=qW h;have sx13:=pF [102,110];rw [bp] at sx13;refine qK (sx13) ?_;obtain⟨⟨aw,ax⟩,bq,h⟩:=qW h;have sx14:=pF al;rw [bq] at sx14;refine qK (sx14) ?_;obtain⟨⟨ay,a3⟩,br,h⟩:=gJ h;refine qK (uU am br) ?_;obtain⟨⟨a4,a5⟩,bt,h⟩:=gJ h;refine qK (gE4 an bt) ?_;obtain⟨⟨a6,a7⟩,bu,h⟩:=gJ h;refine qK (gJk 5000 (gB.mk y aa ab) bu) ?_;obtain⟨⟨a8,a9⟩,bv,h⟩:=gJ h;refine qK (gW7 5000 (gU.mk ac ad ae ag (gB.mk c f q) ah ai) bv) ?_;refine jT (T:=221) (us:=jA [(gD.mk au av),(gD.mk aw ax),(gD.mk ay a3),(gD.mk a4 a5),(gD.mk [] y3),(gD.mk a6 a7),(gD.mk a8 a9)]) ?_;refine mG 4 rfl rfl ?_;obtain⟨⟨bh,bi⟩,bw,h⟩:=gJ h;refine qK (gLc [(gD.mk au av),(gD.mk aw ax),(gD.mk ay a3),(gD.mk a4 a5),(gD.mk [] y3),(gD.mk a6 a7),(gD.mk a8 a9)] bw) ?_;obtain⟨⟨b5,b6⟩,bx,h⟩:=gJ h;refine qK (gSn true (gD.mk bh bi) bx) ?_;refine goY ?_;refine kX ?_;exact goR h
end Go.Proofs.YtfpdlnkkcnmebaaGreat
