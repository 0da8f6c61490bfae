import Derived.Test.YtfpdlnkkcnmebaaGreatWd2
import Derived.Test.YtfpdlnkkcnmebaaGreatB22
set_option maxHeartbeats 4000000
set_option linter.unusedVariables false
set_option linter.unusedSimpArgs false
set_option linter.unusedSectionVars false
namespace Go.Proofs.YtfpdlnkkcnmebaaGreat
open Go Go.Eng
attribute [local irreducible] V VO VQ VY Quiet QR jI mK Rng qE qA pX
def zY(f:pM):List jT→LS→Option (Bool)
 | [],h=>lt_ ((cnd f.auto ((cnd f.assoc (true) ((cnd (decide ((f.signatures.length:Int) > 0)) (true) ((decide ((f.supertraits.length:Int) > 0))))))) (false))) fun q=>
(cnd q (
(some false)) (
bnd ((cnd (pF f.name) (bnd (zJ f.supertraits 4) fun y=>
(cnd y (bnd (zJ h 6) fun aa=>
(some aa)) ((some false)))) ((some false)))) fun ab=>
(some ab)))
 | x6::xs,h=>bnd (gTr x6) fun x7=>
(cnd (!x7) (
(some false)) (
gd (h.length+[x6.name].length≤4294967296) (
zY f xs (h++[x6.name]))))
def gEf(f:pM):Option (Bool):=
zY f f.signatures []
theorem gKu(a0:pM){r:Bool}(h:gEf a0=some r):jI Tryz.prog 211 [.d (gLb a0)] [.b r]:=by
 obtain⟨q,aa,ab,ac,f⟩:=a0;unfold gEf at h;refine SpI Tryz.func211 fun A _=>?_;refine goL ?_;refine gC1 ?_;refine goL ?_;refine noB ?_;refine yC 0 4 (fun z4=>?_);refine mG (fun(y3:Nat)(y1:LS)(v2:Nat)=>⟨[(1,.ptr 0 0),(3,.sl 1 v2),(4,.N y3)],[bTr q aa ab ac f,.own 9 1 v2 (gT y1)],Tryz.f211.ntmps⟩) (fun y3 y1 v2=>zY (pM.mk q aa ab ac f) (f.drop y3) y1=some r) (fun y3 y1 v2=>f.length - y3) 0 [] 0 eJ h ?_;rintro y3 y1 v2 h;refine goL ?_;refine mR (fun c5=>?_) (fun c5=>?_)
 ·have y:=vR c5;obtain⟨x6,al,am⟩:=drop_at y;rw [am,zY.eq_2] at h;obtain⟨ah,ba,⟨ap,aq,ar⟩,bb,bc,⟨au,av,aw,ax,⟨ai,aj,ak⟩,ay,a3⟩⟩:=x6;refine noS ?_;refine kI (jA ?_);refine goL ?_;refine jP (jR y3 (gOq al)) ?_;obtain⟨x7,a6,h⟩:=gJ h;refine jP (gI (hG6 _ a6)) ?_;refine mR (fun c8=>?_) (fun c8=>?_)
  ·replace h:=kU c8 h;exact goR h
  ·replace h:=kV c8 h;refine goS ?_;refine jP (jR y3 (gOq al)) ?_;refine wX ah ?_;obtain⟨g9,h⟩:=pU h;refine gDl g9 ?_;refine goL ?_;refine jP (kD y3 (by omega)) ?_;exact⟨(y3+1),(y1++[ah]),(v2+1),h,by omega,eJ⟩
 ·have y:=vS c5;rw [jK y,zY.eq_1] at h;refine goX ?_;obtain⟨a8,hb10,h⟩:=uK h;refine kH ⟨[(1,.ptr 0 0),(3,.sl 1 v2),(46,.B a8)],[bTr q aa ab ac f,.own 9 1 v2 (gT y1)],Tryz.f211.ntmps⟩ ?_ ?_
  ·refine gqA 31 hb10 (fun bf hb10=>?_);refine gqO 34 hb10 (fun bg hb10=>?_);exact gqZ 40 hb10
  refine goC h ?_ ?_<;>intro bh h
  ·exact goR h
  ·refine goS ?_;refine jP (gI (uH q)) ?_;obtain⟨a9,hb15,h⟩:=gJ h;refine kH ⟨[(2,.B a9)],[bTr q aa ab ac f,.own 9 1 v2 (gT y1)],Tryz.f211.ntmps⟩ ?_ ?_
   ·refine gqA 50 hb15 (fun bi hb15=>?_);obtain⟨bj,an,hb15⟩:=gJ hb15;refine jP (gI (gAy _ _ an)) ?_;refine gqA 55 hb15 (fun bk hb15=>?_);obtain⟨bl,ao,hb15⟩:=gJ hb15;refine yT (gUa (gAy y1 6 ao)) ?_;cases hb15;exact eJ
   exact goR h
def wP(a0:gF)(x1:gF)(x3:LS):List gF→(List jC)→Option (kG × Bool)
 | [],f=>bnd (bnd (uY a0) fun ad=>
(cnd (!ad) ((some true)) ((cnd ((a0.list.length:Int)==0) ((some true)) (bnd (gEe (kG.mk x1.atom x3 f)) fun ae=>
bnd (gCx 5000 ae a0) fun ag=>
(some (!ag))))))) fun ah=>
(cnd ah (
(some ((kG.mk [] [] []),false))) (
(some ((kG.mk x1.atom x3 f),true))))
 | h::xs,f=>bnd (uT h 0) fun q=>
bnd (gI7 h 1) fun ai=>
bnd (gPk ai) fun y=>
gd (f.length+[(jC.mk q.atom y)].length≤4294967296) (
wP a0 x1 x3 xs (f++[(jC.mk q.atom y)]))
def gEg(f:gF):Option (kG × Bool):=
bnd (uT f 1) fun h=>
bnd (uT f 2) fun q=>
bnd (gCy q) fun y=>
bnd (gI7 f 3) fun x4=>
wP f h y x4 []
theorem gNd(a0:gF){r:kG × Bool}(h:gEg a0=some r):jI Tryz.prog 188 [.d (qJ a0)] [gDk r.1,.b r.2]:=by
 obtain⟨y,aa⟩:=a0;unfold gEg at h;refine SpI Tryz.func188 fun A _=>?_;refine gIb ?_;refine jS (P:=Tryz.prog) Mix.h [(0,true),(1,true),(2,true),(3,true),(4,true),(5,true),(6,true),(7,false),(8,false)] (by kernel_rfl) ?_;refine goY ?_;obtain⟨⟨q,ak⟩,aw,h⟩:=gJ h;refine jW rfl (gI (vE _ _ aw)) ?_;refine jW rfl (gIc) ?_;refine goY ?_;obtain⟨⟨be,bf⟩,ax,h⟩:=gJ h;refine jW rfl (gI (vE _ _ ax)) ?_;obtain⟨x3,ay,h⟩:=gJ h;refine jW rfl (gI (gE9 _ ay)) ?_;refine goY ?_;refine mJ ?_;refine goL ?_;obtain⟨x4,a4,h⟩:=gJ h;refine jP (gI (gNj _ _ a4)) ?_;refine noB ?_;refine qZ 188 2 2 2 rfl rfl (by repeat constructor) (by repeat constructor) (by repeat constructor) (by repeat constructor) ?_;show V _ _ _ _ _;refine gCw 5 (fun z8=>?_);refine mG (fun(y7:Nat)(y5:List jC)(v6:Nat)=>⟨[(1,.ptr 0 0),(2,.ptr 1 0),(4,.ptr 2 0),(5,.L 2 (jB x4)),(6,.N y7)],[bSx y aa,.box [.S [],.nilsl,.nilsl],.box [.S q,.L 1 (gT x3),.sl 3 v6],.arr 188 2 v6 (pO y5)],Tryz.f188.ntmps⟩) (fun y7 y5 v6=>wP (gF.mk y aa) (gF.mk q ak) x3 (x4.drop y7) y5=some r) (fun y7 y5 v6=>x4.length - y7) 0 [] 0 eJ h ?_;rintro y7 y5 v6 h;refine goL ?_;refine mR (fun c9=>?_) (fun c9=>?_)
 ·have f:=vR c9;obtain⟨a6,ag,ah⟩:=drop_at f;rw [ah,wP.eq_2] at h;obtain⟨a7,a8⟩:=a6;refine noS ?_;refine kI (jA ?_);refine yL (P:=Tryz.prog) Mix.h [(0,true),(1,true),(2,true),(3,true),(4,true),(5,true),(6,true),(7,true),(8,true),(9,true),(10,true),(11,true),(12,true),(13,true),(14,true),(15,false),(16,false),(17,true),(18,false)] (by kernel_rfl) ?_;refine goY ?_;refine jW rfl (jR y7 (vH ag)) ?_;refine goY ?_;obtain⟨⟨ab,a9⟩,al,h⟩:=gJ h;refine jW rfl (gI (vE _ _ al)) ?_;refine jW rfl (gIc) ?_;refine goY ?_;refine jW rfl (jR y7 (vH ag)) ?_;refine goY ?_;obtain⟨bg,am,h⟩:=gJ h;refine jW rfl (gI (gNj _ _ am)) ?_;obtain⟨an,ao,h⟩:=gJ h;refine jW rfl (gI (gYq _ ao)) ?_;refine goY ?_;refine kT (T:=169) (us:=pO [(jC.mk ab an)]) ?_;obtain⟨ba,h⟩:=pU h;refine kN (T:=169) ba ?_;refine goY ?_;refine mJ ?_;refine goL ?_;refine jP (kD y7 (by omega)) ?_;exact⟨(y7+1),(y5++[(jC.mk ab an)]),(v6+1),h,by omega,eJ⟩
 ·have f:=vS c9;rw [jK f,wP.eq_1] at h;refine noX ?_;refine gIb ?_;refine gV 3 rfl rfl ?_;obtain⟨bb,hb15,h⟩:=gJ h;refine wG (P:=Tryz.prog) Mix.h ⟨[(2,.ptr 1 0),(4,.ptr 2 0),(55,.B bb)],[bSx y aa,.box [.S [],.nilsl,.nilsl],.box [.S q,.L 1 (gT x3),.sl 3 v6],.frz 188 2 v6 (pO y5)],Tryz.f188.ntmps⟩ (by kernel_rfl) ?_ ?_
  ·refine goL ?_;obtain⟨bh,ap,hb15⟩:=gJ hb15;refine gDi (gI (zQ _ ap)) ?_;refine goL ?_;refine gAl 43 (fun ai=>?_) (fun ai=>?_)
   ·replace hb15:=kU ai hb15;refine goL ?_;cases hb15;exact eJ
   ·replace hb15:=kV ai hb15;refine goL ?_;refine gAl 49 (fun aj=>?_) (fun aj=>?_)
    ·replace hb15:=kU aj hb15;refine goL ?_;cases hb15;exact eJ
    ·replace hb15:=kV aj hb15;refine goL ?_;obtain⟨⟨bc,bd⟩,aq,hb15⟩:=gJ hb15;refine hIg (gRe (gNc (kG.mk q x3 y5) aq)) ?_;refine goL ?_;obtain⟨bi,ar,hb15⟩:=gJ hb15;refine gGh (gI (gGp _ _ _ ar)) ?_;refine goL ?_;cases hb15;exact eJ
  refine goC h ?_ ?_<;>intro bj h
  ·refine goL ?_;refine vP (jN TBd.h TZ.h rfl (by repeat constructor)) ?_;exact goR h
  ·refine goS ?_;refine jF ?_;cases h;exact uM
def wQ(q:gF):List jG→(List gF)→Option (gF)
 | [],f=>bnd (gOh true (gF.mk q.atom f)) fun aa=>
(some aa)
 | h::xs,f=>lt_ (pG h.name) fun ab=>
bnd (gBu h.vars) fun ac=>
bnd (gM7 5000 h.body) fun ad=>
bnd (gIh [ab,ac,ad]) fun y=>
gd (f.length+[y].length≤4294967296) (
wQ q xs (f++[y]))
def gEh(f:jD):Option (gF):=
bnd (gB1 f) fun x1=>
(cnd (!x1) (
(some (gF.mk [] []))) (
bnd ((cnd f.default_ (
gd (([]:LS).length+([[100,101,102,97,117,108,116]]:LS).length≤4294967296) (
(some ([]++[[100,101,102,97,117,108,116]])))) (
(some [])))) fun b3=>
bnd ((cnd f.hasAssoc (
bnd (gMo 5000 f.assoc) fun x9=>
bnd (gIh [x9]) fun h=>
(some (h.atom,h.list))) (
(some ([],[]))))) fun b7=>
lt_ (pG [105,110,115,116]) fun y=>
lt_ (pG f.trait) fun aa=>
bnd (gBu f.vars) fun ab=>
bnd (gMo 5000 f.head) fun ac=>
bnd (gMk f.where_) fun ad=>
bnd (gBu b3) fun ae=>
bnd (gJi [y,aa,ab,ac,ad,ae,(gF.mk b7.1 b7.2)]) fun q=>
wQ q f.methods q.list))
theorem gNe(a0:jD){r:gF}(h:gEh a0=some r):jI Tryz.prog 207 [.d (gBq a0)] [qJ r]:=by
 obtain⟨a5,ay,⟨ao,ap,aq⟩,aw,a6,a7,⟨ar,au,av⟩,a4⟩:=a0;unfold gEh at h;refine SpI Tryz.func207 fun A _=>?_;refine goL ?_;obtain⟨x1,cj,h⟩:=gJ h;refine jP (gI (gH5 _ cj)) ?_;refine mR (fun c2=>?_) (fun c2=>?_)
 ·replace h:=kU c2 h;refine goL ?_;refine vP (jN TBd.h TZ.h rfl (by repeat constructor)) ?_;exact goR h
 ·replace h:=kV c2 h;refine goS ?_;refine gC1 ?_;refine goL ?_;obtain⟨b3,hb3,h⟩:=gJ h;refine gIx (fun v4=>⟨[(1,.ptr 0 0),(2,.ptr 1 0),(3,.sl 2 v4)],[bIn a5 ay ao ap aq aw a6 a7 ar au av a4,.box [.S [],.nilsl],.own 9 1 v4 (gT b3)],Tryz.f207.ntmps⟩) ?_ (fun v4=>?_)
  ·refine mR (fun c5=>?_) (fun c5=>?_)
   ·replace hb3:=kU c5 hb3;refine goL ?_;refine wX ([100,101,102,97,117,108,116]:LB) ?_;obtain⟨g6,hb3⟩:=pU hb3;refine gDl g6 ?_;refine goL ?_;cases hb3;exact⟨(0+1),eJ⟩
   ·replace hb3:=kV c5 hb3;refine vN ?_;cases hb3;exact⟨0,eJ⟩
  refine goL ?_;refine yT (jN TBd.h TZ.h rfl (by repeat constructor)) ?_;refine gS8 2 3 1 rfl rfl (by repeat constructor) (by repeat constructor) ?_;obtain⟨⟨f,y⟩,hb7,h⟩:=gJ h;refine wY ⟨[(1,.ptr 0 0),(2,.ptr 1 0),(3,.sl 2 v4),(4,.ptr 3 0)],[bIn a5 ay ao ap aq aw a6 a7 ar au av a4,.box [.S [],.nilsl],.own 9 1 v4 (gT b3),bSx f y],Tryz.f207.ntmps⟩ ?_ ?_
  ·refine mR (fun c8=>?_) (fun c8=>?_)
   ·replace hb7:=kU c8 hb7;refine goL ?_;obtain⟨⟨b2,b4⟩,cn,hb7⟩:=gJ hb7;refine uN (gI (gKk _ _ cn)) ?_;refine uO (u:=(.st [.s b2,.sl 2 (jB b4)])) ?_;refine kS 4 rfl rfl ?_;refine hAv ?_;obtain⟨⟨co,cp⟩,b9,hb7⟩:=gJ hb7;refine yT (gRe (gMf [(gF.mk b2 b4)] b9)) ?_;cases hb7;exact eJ
   ·replace hb7:=kV c8 hb7;refine vN ?_;cases hb7;exact eJ
  refine gIb ?_;refine mP 2 rfl rfl ?_;refine hR8 ?_;obtain⟨⟨aa,ab⟩,ca,h⟩:=uK h;have sx11:=pR [105,110,115,116];rw [ca] at sx11;obtain⟨⟨ac,ad⟩,cb,h⟩:=uK h;have sx12:=pR a5;rw [cb] at sx12;obtain⟨⟨ae,ah⟩,bk,h⟩:=gJ h;obtain⟨⟨ai,aj⟩,be,h⟩:=gJ h;obtain⟨⟨ak,al⟩,bb,h⟩:=gJ h;obtain⟨⟨am,an⟩,a9,h⟩:=gJ h;obtain⟨⟨ax,a3⟩,a8,h⟩:=gJ h;refine uC (P:=Tryz.prog) Mix.h (.q 1 (.q 2 (.q 4 (.q 5 (.q 7 (.q 8 (.q 10 (.q 11 (.q 13 (.q 15 (.h 0 (.h 3 (.h 6 (.h 9 (.h 12 (.h 14 (.h 16 (.h 17 (hcT 18 (hzT 19)) (hcT 18 (hcT 17 (hzT 19)))) (hcT 18 (hcT 16 (hcT 17 (hzT 19))))) (hcT 18 (hcT 14 (hcT 16 (hcT 17 (hzT 19)))))) (hcT 18 (hcT 12 (hcT 14 (hcT 16 (hcT 17 (hzT 19))))))) (hcT 18 (hcT 9 (hcT 12 (hcT 14 (hcT 16 (hcT 17 (hzT 19)))))))) (hcT 18 (hcT 6 (hcT 9 (hcT 12 (hcT 14 (hcT 16 (hcT 17 (hzT 19))))))))) (hcT 18 (hcT 3 (hcT 6 (hcT 9 (hcT 12 (hcT 14 (hcT 16 (hcT 17 (hzT 19)))))))))) (hcT 18 (hcT 0 (hcT 3 (hcT 6 (hcT 9 (hcT 12 (hcT 14 (hcT 16 (hcT 17 (hzT 19))))))))))))))))))))) ⟨[(1,.ptr 0 0),(2,.ptr 1 0),(5,.ptr 6 0)],[bIn a5 ay ao ap aq aw a6 a7 ar au av a4,.box [.S [],.nilsl],.frz 9 1 v4 (gT b3),bSx f y,.frz 223 2 0 (jB [(gF.mk aa ab),(gF.mk ac ad),(gF.mk ae ah),(gF.mk ai aj),(gF.mk ak al),(gF.mk am an),(gF.mk f y)]),.arr 223 2 0 (jB a3),.box [.S ax,.sl 5 0]],Tryz.f207.ntmps⟩ (by kernel_rfl) ?_ ?_
  ·refine goT ?_;refine uD (qD (sx11) gZ) ?_ ?_
   ·refine uD (qD (sx12) gZ) ?_ ?_
    ·refine uD (qD (vL ay bk) gZ) ?_ ?_
     ·refine uD (qD (gKk 5000 (gB.mk ao ap aq) be) gZ) ?_ ?_
      ·refine uD (qD (gFq aw bb) gZ) ?_ ?_
       ·refine uD (qD (vL b3 a9) gZ) ?_ ?_
        ·refine uD (kT (T:=221) (us:=jB [(gF.mk aa ab),(gF.mk ac ad),(gF.mk ae ah),(gF.mk ai aj),(gF.mk ak al),(gF.mk am an),(gF.mk f y)]) gZ) ?_ ?_
         ·refine uD (qC 4 rfl rfl (gDm (sv:=.ag [.S ax,.sl 5 0]) (L':=[bIn a5 ay ao ap aq aw a6 a7 ar au av a4,.box [.S [],.nilsl],.frz 9 1 v4 (gT b3),bSx f y,.frz 223 2 0 (jB [(gF.mk aa ab),(gF.mk ac ad),(gF.mk ae ah),(gF.mk ai aj),(gF.mk ak al),(gF.mk am an),(gF.mk f y)]),.arr 223 2 0 (jB a3)]) [] (wD [(gF.mk aa ab),(gF.mk ac ad),(gF.mk ae ah),(gF.mk ai aj),(gF.mk ak al),(gF.mk am an),(gF.mk f y)] a8) gZ)) ?_ ?_
          ·refine goT ?_;refine jL ?_;exact pQ 0 [0,1,2,3,4,5,6]
          refine goT ?_;refine gQ (qC 4 rfl rfl (gDm (sv:=.ag [.S ax,.sl 6 0]) (L':=[bIn a5 ay ao ap aq aw a6 a7 ar au av a4,.box [.S [],.nilsl],.frz 9 1 v4 (gT b3),bSx f y,.frz 223 2 0 (jB [(gF.mk aa ab),(gF.mk ac ad),(gF.mk ae ah),(gF.mk ai aj),(gF.mk ak al),(gF.mk am an),(gF.mk f y)]),.box [.S [],.nilsl],.arr 223 2 0 (jB a3)]) [] (wD [(gF.mk aa ab),(gF.mk ac ad),(gF.mk ae ah),(gF.mk ai aj),(gF.mk ak al),(gF.mk am an),(gF.mk f y)] a8) gZ)) ?_;refine goT ?_;refine jL ?_;exact pQ 0 [0,1,2,3,4,6,5]
         refine goT ?_;refine gQ (kT (T:=221) (us:=jB [(gF.mk aa ab),(gF.mk ac ad),(gF.mk ae ah),(gF.mk ai aj),(gF.mk ak al),(gF.mk am an),(gF.mk f y)]) gZ) ?_;refine gQ (qC 5 rfl rfl (gDm (sv:=.ag [.S ax,.sl 6 0]) (L':=[bIn a5 ay ao ap aq aw a6 a7 ar au av a4,.box [.S [],.nilsl],.frz 9 1 v4 (gT b3),bSx f y,.box [.S [],.nilsl],.frz 223 2 0 (jB [(gF.mk aa ab),(gF.mk ac ad),(gF.mk ae ah),(gF.mk ai aj),(gF.mk ak al),(gF.mk am an),(gF.mk f y)]),.arr 223 2 0 (jB a3)]) [] (wD [(gF.mk aa ab),(gF.mk ac ad),(gF.mk ae ah),(gF.mk ai aj),(gF.mk ak al),(gF.mk am an),(gF.mk f y)] a8) gZ)) ?_;refine goT ?_;refine jL ?_;exact pQ 0 [0,1,2,3,5,6,4]
        refine goT ?_;refine gQ (qD (vL b3 a9) gZ) ?_;refine gQ (kT (T:=221) (us:=jB [(gF.mk aa ab),(gF.mk ac ad),(gF.mk ae ah),(gF.mk ai aj),(gF.mk ak al),(gF.mk am an),(gF.mk f y)]) gZ) ?_;refine gQ (qC 5 rfl rfl (gDm (sv:=.ag [.S ax,.sl 6 0]) (L':=[bIn a5 ay ao ap aq aw a6 a7 ar au av a4,.box [.S [],.nilsl],.frz 9 1 v4 (gT b3),bSx f y,.box [.S [],.nilsl],.frz 223 2 0 (jB [(gF.mk aa ab),(gF.mk ac ad),(gF.mk ae ah),(gF.mk ai aj),(gF.mk ak al),(gF.mk am an),(gF.mk f y)]),.arr 223 2 0 (jB a3)]) [] (wD [(gF.mk aa ab),(gF.mk ac ad),(gF.mk ae ah),(gF.mk ai aj),(gF.mk ak al),(gF.mk am an),(gF.mk f y)] a8) gZ)) ?_;refine goT ?_;refine jL ?_;exact pQ 0 [0,1,2,3,5,6,4]
       refine goT ?_;refine gQ (qD (gFq aw bb) gZ) ?_;refine gQ (qD (vL b3 a9) gZ) ?_;refine gQ (kT (T:=221) (us:=jB [(gF.mk aa ab),(gF.mk ac ad),(gF.mk ae ah),(gF.mk ai aj),(gF.mk ak al),(gF.mk am an),(gF.mk f y)]) gZ) ?_;refine gQ (qC 5 rfl rfl (gDm (sv:=.ag [.S ax,.sl 6 0]) (L':=[bIn a5 ay ao ap aq aw a6 a7 ar au av a4,.box [.S [],.nilsl],.frz 9 1 v4 (gT b3),bSx f y,.box [.S [],.nilsl],.frz 223 2 0 (jB [(gF.mk aa ab),(gF.mk ac ad),(gF.mk ae ah),(gF.mk ai aj),(gF.mk ak al),(gF.mk am an),(gF.mk f y)]),.arr 223 2 0 (jB a3)]) [] (wD [(gF.mk aa ab),(gF.mk ac ad),(gF.mk ae ah),(gF.mk ai aj),(gF.mk ak al),(gF.mk am an),(gF.mk f y)] a8) gZ)) ?_;refine goT ?_;refine jL ?_;exact pQ 0 [0,1,2,3,5,6,4]
      refine goT ?_;refine gQ (qD (gKk 5000 (gB.mk ao ap aq) be) gZ) ?_;refine gQ (qD (gFq aw bb) gZ) ?_;refine gQ (qD (vL b3 a9) gZ) ?_;refine gQ (kT (T:=221) (us:=jB [(gF.mk aa ab),(gF.mk ac ad),(gF.mk ae ah),(gF.mk ai aj),(gF.mk ak al),(gF.mk am an),(gF.mk f y)]) gZ) ?_;refine gQ (qC 5 rfl rfl (gDm (sv:=.ag [.S ax,.sl 6 0]) (L':=[bIn a5 ay ao ap aq aw a6 a7 ar au av a4,.box [.S [],.nilsl],.frz 9 1 v4 (gT b3),bSx f y,.box [.S [],.nilsl],.frz 223 2 0 (jB [(gF.mk aa ab),(gF.mk ac ad),(gF.mk ae ah),(gF.mk ai aj),(gF.mk ak al),(gF.mk am an),(gF.mk f y)]),.arr 223 2 0 (jB a3)]) [] (wD [(gF.mk aa ab),(gF.mk ac ad),(gF.mk ae ah),(gF.mk ai aj),(gF.mk ak al),(gF.mk am an),(gF.mk f y)] a8) gZ)) ?_;refine goT ?_;refine jL ?_;exact pQ 0 [0,1,2,3,5,6,4]
     refine goT ?_;refine gQ (qD (vL ay bk) gZ) ?_;refine gQ (qD (gKk 5000 (gB.mk ao ap aq) be) gZ) ?_;refine gQ (qD (gFq aw bb) gZ) ?_;refine gQ (qD (vL b3 a9) gZ) ?_;refine gQ (kT (T:=221) (us:=jB [(gF.mk aa ab),(gF.mk ac ad),(gF.mk ae ah),(gF.mk ai aj),(gF.mk ak al),(gF.mk am an),(gF.mk f y)]) gZ) ?_;refine gQ (qC 5 rfl rfl (gDm (sv:=.ag [.S ax,.sl 6 0]) (L':=[bIn a5 ay ao ap aq aw a6 a7 ar au av a4,.box [.S [],.nilsl],.frz 9 1 v4 (gT b3),bSx f y,.box [.S [],.nilsl],.frz 223 2 0 (jB [(gF.mk aa ab),(gF.mk ac ad),(gF.mk ae ah),(gF.mk ai aj),(gF.mk ak al),(gF.mk am an),(gF.mk f y)]),.arr 223 2 0 (jB a3)]) [] (wD [(gF.mk aa ab),(gF.mk ac ad),(gF.mk ae ah),(gF.mk ai aj),(gF.mk ak al),(gF.mk am an),(gF.mk f y)] a8) gZ)) ?_;refine goT ?_;refine jL ?_;exact pQ 0 [0,1,2,3,5,6,4]
    refine goT ?_;refine gQ (qD (sx12) gZ) ?_;refine gQ (qD (vL ay bk) gZ) ?_;refine gQ (qD (gKk 5000 (gB.mk ao ap aq) be) gZ) ?_;refine gQ (qD (gFq aw bb) gZ) ?_;refine gQ (qD (vL b3 a9) gZ) ?_;refine gQ (kT (T:=221) (us:=jB [(gF.mk aa ab),(gF.mk ac ad),(gF.mk ae ah),(gF.mk ai aj),(gF.mk ak al),(gF.mk am an),(gF.mk f y)]) gZ) ?_;refine gQ (qC 5 rfl rfl (gDm (sv:=.ag [.S ax,.sl 6 0]) (L':=[bIn a5 ay ao ap aq aw a6 a7 ar au av a4,.box [.S [],.nilsl],.frz 9 1 v4 (gT b3),bSx f y,.box [.S [],.nilsl],.frz 223 2 0 (jB [(gF.mk aa ab),(gF.mk ac ad),(gF.mk ae ah),(gF.mk ai aj),(gF.mk ak al),(gF.mk am an),(gF.mk f y)]),.arr 223 2 0 (jB a3)]) [] (wD [(gF.mk aa ab),(gF.mk ac ad),(gF.mk ae ah),(gF.mk ai aj),(gF.mk ak al),(gF.mk am an),(gF.mk f y)] a8) gZ)) ?_;refine goT ?_;refine jL ?_;exact pQ 0 [0,1,2,3,5,6,4]
   refine goT ?_;refine gQ (qD (sx11) gZ) ?_;refine gQ (qD (sx12) gZ) ?_;refine gQ (qD (vL ay bk) gZ) ?_;refine gQ (qD (gKk 5000 (gB.mk ao ap aq) be) gZ) ?_;refine gQ (qD (gFq aw bb) gZ) ?_;refine gQ (qD (vL b3 a9) gZ) ?_;refine gQ (kT (T:=221) (us:=jB [(gF.mk aa ab),(gF.mk ac ad),(gF.mk ae ah),(gF.mk ai aj),(gF.mk ak al),(gF.mk am an),(gF.mk f y)]) gZ) ?_;refine gQ (qC 5 rfl rfl (gDm (sv:=.ag [.S ax,.sl 6 0]) (L':=[bIn a5 ay ao ap aq aw a6 a7 ar au av a4,.box [.S [],.nilsl],.frz 9 1 v4 (gT b3),bSx f y,.box [.S [],.nilsl],.frz 223 2 0 (jB [(gF.mk aa ab),(gF.mk ac ad),(gF.mk ae ah),(gF.mk ai aj),(gF.mk ak al),(gF.mk am an),(gF.mk f y)]),.arr 223 2 0 (jB a3)]) [] (wD [(gF.mk aa ab),(gF.mk ac ad),(gF.mk ae ah),(gF.mk ai aj),(gF.mk ak al),(gF.mk am an),(gF.mk f y)] a8) gZ)) ?_;refine goT ?_;refine jL ?_;exact pQ 0 [0,1,2,3,5,6,4]
  refine goL ?_;refine noB ?_;refine yC 0 11 (fun cv=>?_);refine mG (fun(bc:Nat)(bg:List gF)(bl:Nat)=>⟨[(1,.ptr 0 0),(2,.ptr 1 0),(5,.ptr 6 0),(6,.N bc)],[bIn a5 ay ao ap aq aw a6 a7 ar au av a4,.box [.S [],.nilsl],.frz 9 1 v4 (gT b3),bSx f y,.frz 223 2 0 (jB [(gF.mk aa ab),(gF.mk ac ad),(gF.mk ae ah),(gF.mk ai aj),(gF.mk ak al),(gF.mk am an),(gF.mk f y)]),.arr 223 2 bl (jB bg),.box [.S ax,.sl 5 bl]],Tryz.f207.ntmps⟩) (fun bc bg bl=>wQ (gF.mk ax a3) (a4.drop bc) bg=some r) (fun bc bg bl=>a4.length - bc) 0 a3 0 eJ h ?_;rintro bc bg bl h;refine goL ?_;refine mR (fun b5=>?_) (fun b5=>?_)
  ·have bd:=vR b5;obtain⟨cq,cc,b6⟩:=drop_at bd;rw [b6,wQ.eq_2] at h;obtain⟨b7,b8,⟨bm,bn,bo,bp,⟨bh,bi,bj⟩,bq,br⟩⟩:=cq;refine noS ?_;refine kI (jA ?_);refine goL ?_;refine uN (jR bc (hDx cc)) ?_;refine gIb ?_;refine yL (P:=Tryz.prog) Mix.h [(0,true),(1,true),(2,true),(3,true),(5,true),(6,true),(8,true),(9,true),(4,false),(7,false),(10,false),(11,false),(12,false),(13,false),(14,false),(15,true),(16,false)] (by kernel_rfl) ?_;refine goY ?_;obtain⟨⟨bt,bu⟩,cd,h⟩:=uK h;have sx24:=pR b7;rw [cd] at sx24;refine qD (sx24) ?_;obtain⟨⟨bv,bw⟩,ce,h⟩:=gJ h;refine qD (vL b8 ce) ?_;obtain⟨⟨bx,bz⟩,cf,h⟩:=gJ h;refine qD (gYl 5000 (gY.mk bm bn bo bp (gB.mk bh bi bj) bq br) cf) ?_;refine kT (T:=221) (us:=jB [(gF.mk bt bu),(gF.mk bv bw),(gF.mk bx bz)]) ?_;refine qC 8 rfl rfl ?_;obtain⟨⟨b0,b1⟩,cg,h⟩:=gJ h;refine qD (gMf [(gF.mk bt bu),(gF.mk bv bw),(gF.mk bx bz)] cg) ?_;refine kT (T:=221) (us:=jB [(gF.mk b0 b1)]) ?_;obtain⟨cr,h⟩:=pU h;refine kN (T:=221) cr ?_;refine goY ?_;refine mJ ?_;refine goL ?_;refine jP (kD bc (by omega)) ?_;exact⟨(bc+1),(bg++[(gF.mk b0 b1)]),(bl+1),h,by omega,eJ⟩
  ·have bd:=vS b5;rw [jK bd,wQ.eq_1] at h;refine goX ?_;refine kS 5 rfl rfl ?_;refine hAv ?_;obtain⟨⟨cs,ct⟩,ch,h⟩:=gJ h;refine vP (gRe (gTq true (gF.mk ax bg) ch)) ?_;exact goR h
def wR(f:kX):List vQ→(List gF)→Option (gF)
 | [],q=>lt_ (pG [102,110]) fun y=>
lt_ (pG f.name) fun aa=>
bnd (gBu f.vars) fun ab=>
bnd (gMk f.where_) fun ac=>
bnd (gMo 5000 f.result) fun ad=>
bnd (gM7 5000 f.body) fun ae=>
bnd (gIh [y,aa,ab,ac,(gF.mk [] q),ad,ae]) fun ag=>
bnd (gOh true ag) fun ah=>
(some ah)
 | x8::xs,q=>lt_ (pG x8.name) fun x9=>
bnd (gMo 5000 x8.type_) fun ai=>
bnd (gIh [x9,ai]) fun h=>
gd (q.length+[h].length≤4294967296) (
wR f xs (q++[h]))
def gEi(f:kX):Option (gF):=
bnd (gB2 f) fun h=>
(cnd (!h) (
(some (gF.mk [] []))) (
wR f f.params []))
theorem gNf(a0:kX){r:gF}(h:gEi a0=some r):jI Tryz.prog 208 [.d (gEu a0)] [qJ r]:=by
 obtain⟨am,an,ao,ak,⟨aa,ab,ac⟩,⟨ad,ae,ag,ah,⟨f,q,y⟩,ai,aj⟩⟩:=a0;unfold gEi at h;refine SpI Tryz.func208 fun A _=>?_;refine goL ?_;obtain⟨x1,b1,h⟩:=gJ h;refine jP (gI (gH6 (kX.mk am an ao ak (gB.mk aa ab ac) (gY.mk ad ae ag ah (gB.mk f q y) ai aj)) b1)) ?_;refine mR (fun c2=>?_) (fun c2=>?_)
 ·replace h:=kU c2 h;refine goL ?_;refine vP (jN TBd.h TZ.h rfl (by repeat constructor)) ?_;exact goR h
 ·replace h:=kV c2 h;refine goS ?_;refine yT (jN TBd.h TZ.h rfl (by repeat constructor)) ?_;refine noB ?_;refine qZ 223 2 2 1 rfl rfl (by repeat constructor) (by repeat constructor) (by repeat constructor) (by repeat constructor) ?_;show V _ _ _ _ _;refine yC 0 3 (fun z6=>?_);refine mG (fun(y5:Nat)(y3:List gF)(v4:Nat)=>⟨[(1,.ptr 0 0),(2,.ptr 1 0),(3,.ptr 2 0),(4,.N y5)],[.box [.S am,.L 1 (gT an),.L 4 (kC ao),.L 4 (yN ak),.I aa,.S ab,.L 3 (gN ac),.I ad,.S ae,.S ag,.I ah,.I f,.S q,.L 3 (gN y),.L 9 (kQ ai),.L 11 (uZ aj)],.box [.S [],.nilsl],.box [.S [],.sl 3 v4],.arr 223 2 v4 (jB y3)],Tryz.f208.ntmps⟩) (fun y5 y3 v4=>wR (kX.mk am an ao ak (gB.mk aa ab ac) (gY.mk ad ae ag ah (gB.mk f q y) ai aj)) (ak.drop y5) y3=some r) (fun y5 y3 v4=>ak.length - y5) 0 [] 0 eJ h ?_;rintro y5 y3 v4 h;refine goL ?_;refine mR (fun c7=>?_) (fun c7=>?_)
  ·have al:=vR c7;obtain⟨x8,bl,bm⟩:=drop_at al;rw [bm,wR.eq_2] at h;obtain⟨bn,⟨bc,bd,be⟩⟩:=x8;refine noS ?_;refine kI (jA ?_);refine yL (P:=Tryz.prog) Mix.h [(0,true),(1,true),(2,true),(3,true),(4,true),(5,true),(6,true),(7,true),(9,true),(10,true),(11,true),(12,true),(13,true),(14,true),(8,false),(15,false),(16,false),(17,false),(18,false),(19,false),(20,true),(21,false)] (by kernel_rfl) ?_;refine goY ?_;refine jW rfl (jR y5 (gY6 bl)) ?_;refine goY ?_;refine jW rfl (jR y5 (gY6 bl)) ?_;refine goY ?_;obtain⟨⟨bg,bh⟩,b4,h⟩:=uK h;have sx9:=pR bn;rw [b4] at sx9;refine qD (sx9) ?_;obtain⟨⟨ap,aq⟩,bo,h⟩:=gJ h;refine qD (gKk 5000 (gB.mk bc bd be) bo) ?_;refine kT (T:=221) (us:=jB [(gF.mk bg bh),(gF.mk ap aq)]) ?_;refine qC 4 rfl rfl ?_;obtain⟨⟨ar,au⟩,bp,h⟩:=gJ h;refine qD (gMf [(gF.mk bg bh),(gF.mk ap aq)] bp) ?_;refine kT (T:=221) (us:=jB [(gF.mk ar au)]) ?_;obtain⟨b5,h⟩:=pU h;refine kN (T:=221) b5 ?_;refine goY ?_;refine mJ ?_;refine goL ?_;refine jP (kD y5 (by omega)) ?_;exact⟨(y5+1),(y3++[(gF.mk ar au)]),(v4+1),h,by omega,eJ⟩
  ·have al:=vS c7;rw [jK al,wR.eq_1] at h;refine noX ?_;refine gV 3 rfl rfl ?_;refine hPl ?_;refine jS (P:=Tryz.prog) Mix.h [(1,true),(2,true),(4,true),(5,true),(7,true),(8,true),(10,true),(11,true),(12,true),(14,true),(15,true),(0,false),(3,false),(6,false),(9,false),(13,false),(16,false),(17,false),(18,false),(19,false),(20,false)] (by kernel_rfl) ?_;refine goY ?_;obtain⟨⟨av,aw⟩,bq,h⟩:=uK h;have sx13:=pR [102,110];rw [bq] at sx13;refine qD (sx13) ?_;obtain⟨⟨ax,ay⟩,br,h⟩:=uK h;have sx14:=pR am;rw [br] at sx14;refine qD (sx14) ?_;obtain⟨⟨a3,a4⟩,bt,h⟩:=gJ h;refine qD (vL an bt) ?_;obtain⟨⟨a5,a6⟩,bu,h⟩:=gJ h;refine qD (gFq ao bu) ?_;obtain⟨⟨a7,a8⟩,bv,h⟩:=gJ h;refine qD (gKk 5000 (gB.mk aa ab ac) bv) ?_;obtain⟨⟨a9,ba⟩,bw,h⟩:=gJ h;refine qD (gYl 5000 (gY.mk ad ae ag ah (gB.mk f q y) ai aj) bw) ?_;refine kT (T:=221) (us:=jB [(gF.mk av aw),(gF.mk ax ay),(gF.mk a3 a4),(gF.mk a5 a6),(gF.mk [] y3),(gF.mk a7 a8),(gF.mk a9 ba)]) ?_;refine qC 4 rfl rfl ?_;obtain⟨⟨bi,bj⟩,bx,h⟩:=gJ h;refine qD (gMf [(gF.mk av aw),(gF.mk ax ay),(gF.mk a3 a4),(gF.mk a5 a6),(gF.mk [] y3),(gF.mk a7 a8),(gF.mk a9 ba)] bx) ?_;obtain⟨⟨b6,b7⟩,bz,h⟩:=gJ h;refine qD (gTq true (gF.mk bi bj) bz) ?_;refine goY ?_;refine mJ ?_;exact goR h
end Go.Proofs.YtfpdlnkkcnmebaaGreat
