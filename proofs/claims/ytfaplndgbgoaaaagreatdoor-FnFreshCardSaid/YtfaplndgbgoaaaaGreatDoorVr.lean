import Derived.Test.YtfaplndgbgoaaaaGreatDoorEng38
import Derived.Test.YtfaplndgbgoaaaaGreatDoorEng67
import Derived.Test.YtfaplndgbgoaaaaGreatDoorSfi0
import Derived.Test.YtfaplndgbgoaaaaGreatDoorB4
import Derived.Test.YtfaplndgbgoaaaaGreatDoorB5
import Derived.Test.YtfaplndgbgoaaaaGreatDoorCur
import Derived.Test.YtfaplndgbgoaaaaGreatDoorUn1
set_option maxHeartbeats 4000000
set_option linter.unusedVariables false
set_option linter.unusedSimpArgs false
set_option linter.unusedSectionVars false
namespace Go.Proofs.YtfaplndgbgoaaaaGreatDoor
open Go Go.Eng
attribute [local irreducible] V VO VQ VY Quiet QR jB kX Rng uJ uY qW
def gGj(a0:gG)(a1:List UInt8)(a2:gD):Option (gG):=
bnd (gCs a1 a2) fun x1=>
(cnd x1 (
lt_ (yS a0 2) fun x3=>
(some x3)) (
gd (([]:List gI).length+a0.bindings.length≤4294967296) (
gd (([]++a0.bindings).length+[(gI.mk a1 a2)].length≤4294967296) (
(some (gG.mk a0.next a0.count a0.node (([]++a0.bindings)++[(gI.mk a1 a2)]) a0.equations a0.obligations a0.code a0.at_))))))
theorem gRr(a0:gG)(a1:List UInt8)(a2:gD){r:gG}(h:gGj a0 a1 a2=some r):jB Tryz.prog 61 [.d (mE a0),.S a1,.d (jP a2)] [mE r]:=by
 obtain⟨a0_0,a0_1,a0_2,a0_3,a0_4,a0_5,a0_6,a0_7⟩:=a0
 obtain⟨a2_0,a2_1,a2_2⟩:=a2
 unfold gGj at h
 refine SpI Tryz.func61 fun A _=>?_
 refine goL ?_
 obtain⟨x1,hx1,h⟩:=gK h
 refine jI (gF (gMf a1 (gD.mk a2_0 a2_1 a2_2) hx1)) ?_
 refine mO (fun c2=>?_) (fun c2=>?_)
 ·replace h:=gX c2 h
  refine goL ?_
  obtain⟨⟨x3_0,x3_1,x3_2,x3_3,x3_4,x3_5,x3_6,x3_7⟩,hx3,h⟩:=qR h
  have sx3:=gH4 (gG.mk a0_0 a0_1 a0_2 a0_3 a0_4 a0_5 a0_6 a0_7) 2
  rw [hx3] at sx3
  refine qP (gF (sx3)) ?_
  exact goR h
 ·replace h:=gY c2 h
  refine noS ?_
  obtain⟨g4,h⟩:=mZ h
  obtain⟨g5,h⟩:=mZ h
  refine uZ (P:=Tryz.prog) Mix.h (.q 1 (.q 2 (.q 4 (.q 5 (.q 6 (.h 0 (.h 3 (.h 7 (.h 8 (.q 9 (.h 10 .nil .nil)) .nil) .nil) (.h 7 (.h 3 (.h 8 (.q 9 (.h 10 .nil .nil)) .nil) .nil) .nil)) (.h 7 (.h 0 (.h 3 (.h 8 (.q 9 (.h 10 .nil .nil)) .nil) .nil) .nil) .nil))))))) ⟨[(3,.ptr 0 0),(6,.ptr 2 0)],[.box [.I a0_0,.I a0_1,.I a0_2,.sl 3 ((0+1)+1),.L 7 (jY a0_4),.L 5 (jR a0_5),.I a0_6,.I a0_7],.box [.I a2_0,.S a2_1,.L 3 (gJ a2_2)],.box [.I 0,.I 0,.I 0,.nilsl,.nilsl,.nilsl,.I 0,.I 0],.arr 92 4 ((0+1)+1) (gQ (([]++a0_3)++[(gI.mk a1 (gD.mk a2_0 a2_1 a2_2))])),.arr 92 4 0 (gQ [(gI.mk a1 (gD.mk a2_0 a2_1 a2_2))])],Tryz.f61.ntmps⟩ (by kernel_rfl) ?_ ?_
  ·refine goT ?_
   refine wQ (gT3 jQ) ?_ ?_
   ·refine wQ (pV (T:=24) g4 jQ) ?_ ?_
    ·refine jO (pY (T:=24) (us:=gQ [(gI.mk a1 (gD.mk a2_0 a2_1 a2_2))]) jQ) ?_
     refine jO (pV (T:=24) g5 jQ) ?_
     refine goT ?_
     refine jW ?_
     exact vG 0 [0,1,2,3,4]
    refine jO (pY (T:=24) (us:=gQ [(gI.mk a1 (gD.mk a2_0 a2_1 a2_2))]) jQ) ?_
    refine jO (pV (T:=24) g4 jQ) ?_
    refine jO (pV (T:=24) g5 jQ) ?_
    refine goT ?_
    refine jW ?_
    exact vG 0 [0,1,2,3,4]
   refine jO (pY (T:=24) (us:=gQ [(gI.mk a1 (gD.mk a2_0 a2_1 a2_2))]) jQ) ?_
   refine jO (gT3 jQ) ?_
   refine jO (pV (T:=24) g4 jQ) ?_
   refine jO (pV (T:=24) g5 jQ) ?_
   refine goT ?_
   refine jW ?_
   exact vG 0 [0,1,2,4,3]
  refine goL ?_
  refine kK 3 rfl rfl ?_
  refine jN ?_
  cases h
  exact qK
def wD(a0:gH)(a1:List UInt8)(a2:List UInt8):Option (List Int × Bool):=
bnd (gKm 5000 a0 a1 a2 8) fun x1=>
(some (x1.1,x1.2))
theorem gGk(a0:gH)(a1:List UInt8)(a2:List UInt8){r:List Int × Bool}(h:wD a0 a1 a2=some r):jB Tryz.prog 160 [.d (kT a0),.S a1,.S a2] [.sl 1 (gKp r.1),.b r.2]:=by
 obtain⟨a0_0⟩:=a0
 unfold wD at h
 refine SpI Tryz.func160 fun A _=>?_
 refine goL ?_
 obtain⟨⟨x1_0,x1_1⟩,hx1,h⟩:=gK h
 refine qP (gF (gU9 5000 (gH.mk a0_0) a1 a2 8 hx1)) ?_
 exact goR h
def uB(a0:gH)(x7:jZ)(k2_0:Bool→Option (gT × Int)):List gT→Bool→Option (gT × Int)
 | [],y9=>(k2_0 y9)
 | x12::xs,y9=>bnd (at? a0.packages x12.package) fun x13=>
bnd (at? x13.instances x12.at_) fun x14=>
bnd ((cnd y9 (bnd (uV x14.head x7.head) fun x17=>
(some (!x17))) ((some false)))) fun b15=>
uB a0 x7 k2_0 xs b15
def pQ(a0:gH)(x1:List gT):List gT→Option (gT × Int)
 | []=>(some ((gT.mk 0 0),1))
 | x5::xs=>bnd (at? a0.packages x5.package) fun x6=>
bnd (at? x6.instances x5.at_) fun x7=>
uB a0 x7 (fun y9=>bnd ((cnd y9 ((cnd x7.default_ (none) ((some false)))) ((some false)))) fun b18=>
(cnd b18 (
(some ((gT.mk 0 0),2))) (
(cnd y9 (
(some (x5,0))) (
pQ a0 x1 xs ))))) x1 true
def yU(a0:gH)(a1:jD):Option (gT × Int):=
bnd (uU a0 a1) fun x1=>
pQ a0 x1 x1
theorem gKz(a0:gH)(a1:jD){r:gT × Int}(h:yU a0 a1=some r):jB Tryz.prog 178 [.d (kT a0),.d (gAh a1)] [wW r.1,.i .i64 r.2]:=by
 obtain⟨a0_0⟩:=a0
 obtain⟨a1_0,⟨a1_1_0,a1_1_1,a1_1_2⟩⟩:=a1
 unfold yU at h
 refine SpI Tryz.func178 fun A _=>?_
 refine goL ?_
 obtain⟨x1,hx1,h⟩:=gK h
 refine jI (gF (gHq (gH.mk a0_0) (jD.mk a1_0 (gD.mk a1_1_0 a1_1_1 a1_1_2)) hx1)) ?_
 refine noB ?_
 refine gFj 6 (fun z3=>?_)
 refine pJ (fun(y2:Nat)=>⟨[(2,.ptr 0 0),(3,.ptr 1 0),(4,.ptr 2 0),(6,.L 2 (mX x1)),(7,.N y2)],[.box [.L 6 (kN a0_0)],.box [.S a1_0,.I a1_1_0,.S a1_1_1,.L 3 (gJ a1_1_2)],.box [.I 0,.I 0]],Tryz.f178.ntmps⟩) (fun y2=>pQ (gH.mk a0_0) x1 (x1.drop y2)  =some r) (fun y2=>x1.length - y2) 0 eJ h ?_
 rintro y2 h
 refine goL ?_
 refine mO (fun c4=>?_) (fun c4=>?_)
 ·have hky22:=wE c4
  obtain⟨x5,hx5,hdx5⟩:=drop_at hky22
  rw [hdx5,pQ.eq_2] at h
  obtain⟨x5_0,x5_1⟩:=x5
  refine noS ?_
  refine kI (jE ?_)
  refine jL (P:=Tryz.prog) Mix.h [(0,true),(1,true),(2,true),(3,true),(4,true),(5,true),(6,true),(7,true),(8,true),(9,true),(10,true),(11,true),(12,true),(13,true),(14,true),(15,true),(16,true),(17,false),(18,false)] (by kernel_rfl) ?_
  refine goY ?_
  refine jC rfl (jJ y2 (yV hx5)) ?_
  refine goY ?_
  obtain⟨x6,hx6,h⟩:=gK h
  obtain⟨hx60,hx6⟩:=gD6 hx6
  obtain⟨x6_0,x6_1,x6_2,x6_3,x6_4,x6_5⟩:=x6
  refine jC rfl (qU hx60 (gC7 hx6)) ?_
  refine goY ?_
  refine jC rfl (jJ y2 (yV hx5)) ?_
  refine goY ?_
  obtain⟨x7,hx7,h⟩:=gK h
  obtain⟨hx70,hx7⟩:=gD6 hx7
  obtain⟨x7_0,x7_1,⟨x7_2_0,x7_2_1,x7_2_2⟩,x7_3,x7_4,x7_5,⟨x7_6_0,x7_6_1,x7_6_2⟩,x7_7⟩:=x7
  refine jC rfl (qU hx70 (gGf hx7)) ?_
  refine goY ?_
  refine kS ?_
  refine goL ?_
  refine noB ?_
  refine gFj 6 (fun z10=>?_)
  refine gD3 (fun(y8:Nat) (y9:Bool)=>⟨[(2,.ptr 0 0),(3,.ptr 1 0),(4,.ptr 2 0),(6,.L 2 (mX x1)),(7,.N y2),(8,.ptr 3 0),(9,.B y9),(10,.N y8)],[.box [.L 6 (kN a0_0)],.box [.S a1_0,.I a1_1_0,.S a1_1_1,.L 3 (gJ a1_1_2)],.box [.I 0,.I 0],.box [.S x7_0,.L 1 (gZ x7_1),.I x7_2_0,.S x7_2_1,.L 3 (gJ x7_2_2),.L 4 (jT x7_3),.B x7_4,.B x7_5,.I x7_6_0,.S x7_6_1,.L 3 (gJ x7_6_2),.L 11 (mW x7_7)]],Tryz.f178.ntmps⟩) (fun y8 y9=>uB (gH.mk a0_0) (jZ.mk x7_0 x7_1 (gD.mk x7_2_0 x7_2_1 x7_2_2) x7_3 x7_4 x7_5 (gD.mk x7_6_0 x7_6_1 x7_6_2) x7_7) (fun y9=>bnd ((cnd y9 ((cnd (jZ.mk x7_0 x7_1 (gD.mk x7_2_0 x7_2_1 x7_2_2) x7_3 x7_4 x7_5 (gD.mk x7_6_0 x7_6_1 x7_6_2) x7_7).default_ (none) ((some false)))) ((some false)))) fun b18=>
(cnd b18 (
(some ((gT.mk 0 0),2))) (
(cnd y9 (
(some ((gT.mk x5_0 x5_1),0))) (
pQ (gH.mk a0_0) x1 (x1.drop (y2+1)) ))))) (x1.drop y8) y9=some r) (fun y8 y9=>x1.length - y8) 0 true eJ h ?_
  rintro y8 y9 h
  refine goL ?_
  refine mO (fun c11=>?_) (fun c11=>?_)
  ·have hky82:=wE c11
   obtain⟨x12,hx12,hdx12⟩:=drop_at hky82
   rw [hdx12,uB.eq_2] at h
   obtain⟨x12_0,x12_1⟩:=x12
   refine noS ?_
   refine kI (jE ?_)
   refine jL (P:=Tryz.prog) Mix.h [(0,true),(1,true),(2,true),(3,true),(4,true),(5,true),(6,true),(7,true),(8,true),(9,true),(10,true),(11,true),(12,true),(13,true),(14,true),(15,true),(16,true),(17,false),(18,false)] (by kernel_rfl) ?_
   refine goY ?_
   refine jC rfl (jJ y8 (yV hx12)) ?_
   refine goY ?_
   obtain⟨x13,hx13,h⟩:=gK h
   obtain⟨hx130,hx13⟩:=gD6 hx13
   obtain⟨x13_0,x13_1,x13_2,x13_3,x13_4,x13_5⟩:=x13
   refine jC rfl (qU hx130 (gC7 hx13)) ?_
   refine goY ?_
   refine jC rfl (jJ y8 (yV hx12)) ?_
   refine goY ?_
   obtain⟨x14,hx14,h⟩:=gK h
   obtain⟨hx140,hx14⟩:=gD6 hx14
   obtain⟨x14_0,x14_1,⟨x14_2_0,x14_2_1,x14_2_2⟩,x14_3,x14_4,x14_5,⟨x14_6_0,x14_6_1,x14_6_2⟩,x14_7⟩:=x14
   refine jC rfl (qU hx140 (gGf hx14)) ?_
   refine goY ?_
   refine kS ?_
   refine goL ?_
   obtain⟨b15,hb15,h⟩:=gK h
   refine jU ⟨[(2,.ptr 0 0),(3,.ptr 1 0),(4,.ptr 2 0),(6,.L 2 (mX x1)),(7,.N y2),(8,.ptr 3 0),(10,.N y8),(9,.B b15)],[.box [.L 6 (kN a0_0)],.box [.S a1_0,.I a1_1_0,.S a1_1_1,.L 3 (gJ a1_1_2)],.box [.I 0,.I 0],.box [.S x7_0,.L 1 (gZ x7_1),.I x7_2_0,.S x7_2_1,.L 3 (gJ x7_2_2),.L 4 (jT x7_3),.B x7_4,.B x7_5,.I x7_6_0,.S x7_6_1,.L 3 (gJ x7_6_2),.L 11 (mW x7_7)],.box [.S x14_0,.L 1 (gZ x14_1),.I x14_2_0,.S x14_2_1,.L 3 (gJ x14_2_2),.L 4 (jT x14_3),.B x14_4,.B x14_5,.I x14_6_0,.S x14_6_1,.L 3 (gJ x14_6_2),.L 11 (mW x14_7)]],Tryz.f178.ntmps⟩ ?_ ?_
   ·refine gN 62 (fun c16=>?_) (fun c16=>?_)
    ·replace hb15:=gX c16 hb15
     refine goL ?_
     refine uD ?_
     obtain⟨x17,hx17,hb15⟩:=gK hb15
     refine jI (gF (gMg (gD.mk x14_2_0 x14_2_1 x14_2_2) (gD.mk x7_2_0 x7_2_1 x7_2_2) hx17)) ?_
     cases hb15
     exact eJ
    ·replace hb15:=gY c16 hb15
     refine goL ?_
     cases hb15
     exact eJ
   refine goL ?_
   refine jI (jS y8 (by omega)) ?_
   exact⟨(y8+1),b15,h,by omega,eJ⟩
  ·have hky82:=wF c11
   rw [jF hky82,uB.eq_1] at h
   refine goX ?_
   obtain⟨b18,hb18,h⟩:=gK h
   refine jU ⟨[(2,.ptr 0 0),(3,.ptr 1 0),(4,.ptr 2 0),(6,.L 2 (mX x1)),(7,.N y2),(9,.B y9),(80,.B b18)],[.box [.L 6 (kN a0_0)],.box [.S a1_0,.I a1_1_0,.S a1_1_1,.L 3 (gJ a1_1_2)],.box [.I 0,.I 0],.box [.S x7_0,.L 1 (gZ x7_1),.I x7_2_0,.S x7_2_1,.L 3 (gJ x7_2_2),.L 4 (jT x7_3),.B x7_4,.B x7_5,.I x7_6_0,.S x7_6_1,.L 3 (gJ x7_6_2),.L 11 (mW x7_7)]],Tryz.f178.ntmps⟩ ?_ ?_
   ·refine gN 71 (fun c19=>?_) (fun c19=>?_)
    ·replace hb18:=gX c19 hb18
     refine goL ?_
     refine gN 75 (fun c20=>?_) (fun c20=>?_)
     ·replace hb18:=gX c20 hb18
      refine goL ?_
      refine uD ?_
      cases hb18
     ·replace hb18:=gY c20 hb18
      refine goL ?_
      cases hb18
      exact eJ
    ·replace hb18:=gY c19 hb18
     refine goL ?_
     cases hb18
     exact eJ
   refine goC h ?_ ?_<;>intro c21 h
   ·refine goL ?_
    refine gA6 (kD TBd.h TZ.h rfl (by repeat constructor)) ?_
    exact goR h
   ·refine goS ?_
    refine mO (fun c22=>?_) (fun c22=>?_)
    ·replace h:=gX c22 h
     refine goL ?_
     refine qP (jJ y2 (yV hx5)) ?_
     exact goR h
    ·replace h:=gY c22 h
     refine goS ?_
     refine jI (jS y2 (by omega)) ?_
     exact⟨(y2+1),h,by omega,eJ⟩
 ·have hky22:=wF c4
  rw [jF hky22,pQ.eq_1] at h
  refine goX ?_
  refine gA6 (kD TBd.h TZ.h rfl (by repeat constructor)) ?_
  exact goR h
def qF(a0:gH)(a1:List UInt8):Option (List (List UInt8)):=
bnd (gI7 5000 a0 a1 []) fun x1=>
(some x1)
theorem gK0(a0:gH)(a1:List UInt8){r:List (List UInt8)}(h:qF a0 a1=some r):jB Tryz.prog 162 [.d (kT a0),.S a1] [.sl 1 (gZ r)]:=by
 obtain⟨a0_0⟩:=a0
 unfold qF at h
 refine SpI Tryz.func162 fun A _=>?_
 refine goL ?_
 refine gFc ?_
 obtain⟨x1,hx1,h⟩:=gK h
 refine gG0 [1] (gSc 5000 (gH.mk a0_0) a1 [] 0 hx1) ?_
 rintro _ _ ⟨v2,rfl,rfl⟩
 show VO _ _ _ _ ⟨(_,.sl 1 v2)::_,[.box [.L 6 (kN a0_0)],.own 9 1 v2 (gZ x1)],_⟩ _
 refine goL ?_
 refine wL 1 rfl rfl ?_
 refine jN ?_
 cases h
 exact qK
def yF(a0:gH)(a1:gT)(a2:gD):Option (gD × Bool):=
bnd (gBl a0 a1) fun x1=>
bnd (gDl x1.1.head a2) fun x2=>
lt_ ((cnd (!x1.2) (true) ((cnd (!x1.1.hasAssoc) (true) ((!x2.2)))))) fun b3=>
(cnd b3 (
(some ((gD.mk 0 [] []),false))) (
gd (bok x2.1∧tok x1.1.assoc) (lt_ (apT x2.1 x1.1.assoc) fun x8=>
(some (x8,true)))))
theorem gN1(a0:gH)(a1:gT)(a2:gD){r:gD × Bool}(h:yF a0 a1 a2=some r):jB Tryz.prog 110 [.d (kT a0),.d (wW a1),.d (jP a2)] [jP r.1,.b r.2]:=by
 obtain⟨a0_0⟩:=a0
 obtain⟨a1_0,a1_1⟩:=a1
 obtain⟨a2_0,a2_1,a2_2⟩:=a2
 unfold yF at h
 refine SpI Tryz.func110 fun A _=>?_
 refine goL ?_
 obtain⟨⟨⟨x1_0_0,x1_0_1,⟨x1_0_2_0,x1_0_2_1,x1_0_2_2⟩,x1_0_3,x1_0_4,x1_0_5,⟨x1_0_6_0,x1_0_6_1,x1_0_6_2⟩,x1_0_7⟩,x1_1⟩,hx1,h⟩:=gK h
 refine jI (gF (gSd (gH.mk a0_0) (gT.mk a1_0 a1_1) hx1)) ?_
 obtain⟨⟨x2_0,x2_1⟩,hx2,h⟩:=gK h
 refine jI (gF (gMm (gD.mk x1_0_2_0 x1_0_2_1 x1_0_2_2) (gD.mk a2_0 a2_1 a2_2) hx2)) ?_
 obtain⟨b3,hb3,h⟩:=qR h
 refine jU ⟨[(6,.ptr 3 0),(8,.ptr 4 0),(10,.L 4 (gQ x2_0)),(35,.B b3)],[.box [.L 6 (kN a0_0)],.box [.I a1_0,.I a1_1],.box [.I a2_0,.S a2_1,.L 3 (gJ a2_2)],.box [.I 0,.S [],.nilsl],.box [.S x1_0_0,.L 1 (gZ x1_0_1),.I x1_0_2_0,.S x1_0_2_1,.L 3 (gJ x1_0_2_2),.L 4 (jT x1_0_3),.B x1_0_4,.B x1_0_5,.I x1_0_6_0,.S x1_0_6_1,.L 3 (gJ x1_0_6_2),.L 11 (mW x1_0_7)]],Tryz.f110.ntmps⟩ ?_ ?_
 ·refine gN 27 (fun c4=>?_) (fun c4=>?_)
  ·replace hb3:=gX c4 hb3
   refine goL ?_
   cases hb3
   exact eJ
  ·replace hb3:=gY c4 hb3
   refine goL ?_
   refine gN 32 (fun c5=>?_) (fun c5=>?_)
   ·replace hb3:=gX c5 hb3
    refine goL ?_
    cases hb3
    exact eJ
   ·replace hb3:=gY c5 hb3
    refine goL ?_
    cases hb3
    exact eJ
 refine goC h ?_ ?_<;>intro c6 h
 ·refine goL ?_
  refine gA6 (kD TBd.h TZ.h rfl (by repeat constructor)) ?_
  exact goR h
 ·refine goS ?_
  obtain⟨g7,h⟩:=mZ h
  obtain⟨⟨x8_0,x8_1,x8_2⟩,hx8,h⟩:=qR h
  have sx8:=(gP1 x2_0 (gD.mk x1_0_6_0 x1_0_6_1 x1_0_6_2) g7).p
  rw [hx8] at sx8
  refine qP (gF (sx8)) ?_
  exact goR h
def gNj(rec_l32Ty:jA→Int→Option (gD × jA))(c:jA)(a1:Int):Option (gD × jA):=
bnd (yQ c 6) fun x1=>
bnd ((cnd (x1.1==0) (
(some (x1.1==0))) (
(some (x1.1==1))))) fun b2=>
(cnd b2 (
bnd (yQ x1.2 4) fun x5=>
gd (zH x5.1) (gd (([63]:List UInt8).length+(Lib.itoa x5.1).length≤4294967296) (
lt_ (gCx (([63]:List UInt8)++(Lib.itoa x5.1))) fun x8=>
(some (x8,x5.2))))) (
(cnd (x1.1==2) (
bnd (gEf x1.2 [[105,110,116],[98,111,111,108]]) fun x10=>
bnd (gF6 x10.1 []) fun x11=>
(some (x11,x10.2))) (
(cnd (x1.1==3) (
lt_ (gCx [63,49]) fun x13=>
bnd (gKn ) fun x14=>
lt_ (gCx [97]) fun x15=>
bnd (gKn ) fun x16=>
bnd (gF6 [98,111,120] [x16]) fun x17=>
bnd (gGi x1.2 [x13,x14,x15,x17]) fun x18=>
bnd (gLx [97,100,100] x18.1) fun x19=>
(some (x19,x18.2))) (
(cnd (decide (a1≤0)) (
lt_ (gCx [97]) fun x21=>
(some (x21,x1.2))) (
bnd (gCm x1.2 2) fun x22=>
(cnd x22.1 (
bnd (rec_l32Ty x22.2 (IntKind.i64.wrap (a1 - 1))) fun x24=>
bnd (gF6 [98,111,120] [x24.1]) fun x25=>
(some (x25,x24.2))) (
bnd (rec_l32Ty x22.2 (IntKind.i64.wrap (a1 - 1))) fun x26=>
bnd (rec_l32Ty x26.2 (IntKind.i64.wrap (a1 - 1))) fun x27=>
bnd (gF6 [112,97,105,114] [x26.1,x27.1]) fun x28=>
(some (x28,x27.2))))))))))))
theorem hEz{rec_l32Ty:jA→Int→Option (gD × jA)}(hrec_l32Ty:∀(x0:jA) (x1:Int) {r:gD × jA},rec_l32Ty x0 x1=some r→Go.Eng.Spec Tryz.prog 23 [.ptr 0 0,.I x1] [.box [.L 1 (kQ x0.b),.I x0.i,.I x0.h]] (fun sv Lo=>sv=.d (jP r.1)∧Lo=[.box [.L 1 (kQ r.2.b),.I r.2.i,.I r.2.h]]))(c:jA)(a1:Int){r:gD × jA}(h:gNj rec_l32Ty c a1=some r):Go.Eng.Spec Tryz.prog 23 [.ptr 0 0,.I a1] [.box [.L 1 (kQ c.b),.I c.i,.I c.h]] (fun sv Lo=>sv=.d (jP r.1)∧Lo=[.box [.L 1 (kQ r.2.b),.I r.2.i,.I r.2.h]]):=by
 obtain⟨c_0,c_1,c_2⟩:=c
 unfold gNj at h
 refine mP 1 Tryz.func23 rfl (by kernel_rfl) rfl rfl fun A _=>?_
 refine goL ?_
 obtain⟨⟨x1_0,⟨x1_1_0,x1_1_1,x1_1_2⟩⟩,hx1,h⟩:=gK h
 refine zI 0 (gCk (jA.mk c_0 c_1 c_2) 6 hx1) ?_
 refine goL ?_
 refine jE ?_
 refine goL ?_
 obtain⟨b2,hb2,h⟩:=gK h
 refine gD4 ⟨[(0,.ptr 0 0),(1,.I a1),(4,.ptr 1 0),(6,.I x1_0),(7,.B b2)],[.box [.L 1 (kQ x1_1_0),.I x1_1_1,.I x1_1_2],.box [.I 0,.S [],.nilsl]],Tryz.f23.ntmps⟩ ?_ ?_
 ·refine mO (fun c3=>?_) (fun c3=>?_)
  ·replace hb2:=gX c3 hb2
   refine gAi ?_
   cases hb2
   exact eJ
  ·replace hb2:=gY c3 hb2
   refine goL ?_
   cases hb2
   exact eJ
 refine goC h ?_ ?_<;>intro c4 h
 ·refine goL ?_
  obtain⟨⟨x5_0,⟨x5_1_0,x5_1_1,x5_1_2⟩⟩,hx5,h⟩:=gK h
  refine zI 0 (gCk (jA.mk x1_1_0 x1_1_1 x1_1_2) 4 hx5) ?_
  obtain⟨g6,h⟩:=mZ h
  refine qP (gF (gH6 x5_0 g6)) ?_
  obtain⟨g7,h⟩:=mZ h
  refine qP (vB g7) ?_
  obtain⟨⟨x8_0,x8_1,x8_2⟩,hx8,h⟩:=qR h
  have sx8:=gKw (([63]:List UInt8)++(Lib.itoa x5_0))
  rw [hx8] at sx8
  refine jI (gF (sx8)) ?_
  refine jN ?_
  obtain rfl:=Option.some.inj h
  exact gFk [.d (.st [.i .i64 x8_0,.s x8_1,.sl 3 (gJ x8_2)])] [.box [.L 1 (kQ x5_1_0),.I x5_1_1,.I x5_1_2]] ⟨rfl,rfl⟩
 ·refine goC h ?_ ?_<;>intro c9 h
  ·refine goL ?_
   refine gM3 (us:=gZ [[105,110,116],[98,111,111,108]]) ?_
   refine vO 2 rfl rfl ?_
   obtain⟨⟨x10_0,⟨x10_1_0,x10_1_1,x10_1_2⟩⟩,hx10,h⟩:=gK h
   refine zI 0 (gLq (jA.mk x1_1_0 x1_1_1 x1_1_2) [[105,110,116],[98,111,111,108]] hx10) ?_
   obtain⟨⟨x11_0,x11_1,x11_2⟩,hx11,h⟩:=gK h
   refine jI (gF (gKx x10_0 [] hx11)) ?_
   refine jN ?_
   obtain rfl:=Option.some.inj h
   exact gFk [.d (.st [.i .i64 x11_0,.s x11_1,.sl 3 (gJ x11_2)])] [.box [.L 1 (kQ x10_1_0),.I x10_1_1,.I x10_1_2]] ⟨rfl,rfl⟩
  ·refine goC h ?_ ?_<;>intro c12 h
   ·refine goL ?_
    obtain⟨⟨x13_0,x13_1,x13_2⟩,hx13,h⟩:=qR h
    have sx13:=gKw [63,49]
    rw [hx13] at sx13
    refine qP (gF (sx13)) ?_
    obtain⟨⟨x14_0,x14_1,x14_2⟩,hx14,h⟩:=gK h
    refine qP (gF (gWl  hx14)) ?_
    obtain⟨⟨x15_0,x15_1,x15_2⟩,hx15,h⟩:=qR h
    have sx15:=gKw [97]
    rw [hx15] at sx15
    refine qP (gF (sx15)) ?_
    obtain⟨⟨x16_0,x16_1,x16_2⟩,hx16,h⟩:=gK h
    refine qP (gF (gWl  hx16)) ?_
    refine gBc (u:=(.st [.i .i64 x16_0,.s x16_1,.sl 3 (gJ x16_2)])) ?_
    refine vO 2 rfl rfl ?_
    obtain⟨⟨x17_0,x17_1,x17_2⟩,hx17,h⟩:=gK h
    refine gA6 (gXe (gKx [98,111,120] [(gD.mk x16_0 x16_1 x16_2)] hx17)) ?_
    refine gM3 (us:=gJ [(gD.mk x13_0 x13_1 x13_2),(gD.mk x14_0 x14_1 x14_2),(gD.mk x15_0 x15_1 x15_2),(gD.mk x17_0 x17_1 x17_2)]) ?_
    refine vO 3 rfl rfl ?_
    obtain⟨⟨⟨x18_0_0,x18_0_1,x18_0_2⟩,⟨x18_1_0,x18_1_1,x18_1_2⟩⟩,hx18,h⟩:=gK h
    refine zI 0 (gVp (jA.mk x1_1_0 x1_1_1 x1_1_2) [(gD.mk x13_0 x13_1 x13_2),(gD.mk x14_0 x14_1 x14_2),(gD.mk x15_0 x15_1 x15_2),(gD.mk x17_0 x17_1 x17_2)] hx18) ?_
    obtain⟨⟨x19_0,x19_1,x19_2⟩,hx19,h⟩:=gK h
    refine jI (gF (hBf [97,100,100] (gD.mk x18_0_0 x18_0_1 x18_0_2) hx19)) ?_
    refine jN ?_
    obtain rfl:=Option.some.inj h
    exact gFk [.d (.st [.i .i64 x19_0,.s x19_1,.sl 3 (gJ x19_2)])] [.box [.L 1 (kQ x18_1_0),.I x18_1_1,.I x18_1_2]] ⟨rfl,rfl⟩
   ·refine goS ?_
    refine mO (fun c20=>?_) (fun c20=>?_)
    ·replace h:=gX c20 h
     refine goL ?_
     obtain⟨⟨x21_0,x21_1,x21_2⟩,hx21,h⟩:=qR h
     have sx21:=gKw [97]
     rw [hx21] at sx21
     refine jI (gF (sx21)) ?_
     refine jN ?_
     obtain rfl:=Option.some.inj h
     exact gFk [.d (.st [.i .i64 x21_0,.s x21_1,.sl 3 (gJ x21_2)])] [.box [.L 1 (kQ x1_1_0),.I x1_1_1,.I x1_1_2]] ⟨rfl,rfl⟩
    ·replace h:=gY c20 h
     refine goS ?_
     obtain⟨⟨x22_0,⟨x22_1_0,x22_1_1,x22_1_2⟩⟩,hx22,h⟩:=gK h
     refine zI 0 (gG1 (jA.mk x1_1_0 x1_1_1 x1_1_2) 2 hx22) ?_
     refine goC h ?_ ?_<;>intro c23 h
     ·refine goL ?_
      refine qP (qC) ?_
      obtain⟨⟨⟨x24_0_0,x24_0_1,x24_0_2⟩,⟨x24_1_0,x24_1_1,x24_1_2⟩⟩,hx24,h⟩:=gK h
      refine zI 0 (hrec_l32Ty (jA.mk x22_1_0 x22_1_1 x22_1_2) (IntKind.i64.wrap (a1 - 1)) hx24) ?_
      refine gBc (u:=(.st [.i .i64 x24_0_0,.s x24_0_1,.sl 3 (gJ x24_0_2)])) ?_
      refine vO 2 rfl rfl ?_
      obtain⟨⟨x25_0,x25_1,x25_2⟩,hx25,h⟩:=gK h
      refine gFl (gXe (gKx [98,111,120] [(gD.mk x24_0_0 x24_0_1 x24_0_2)] hx25)) ?_
      refine jN ?_
      obtain rfl:=Option.some.inj h
      exact gFk [.d (.st [.i .i64 x25_0,.s x25_1,.sl 3 (gJ x25_2)])] [.box [.L 1 (kQ x24_1_0),.I x24_1_1,.I x24_1_2]] ⟨rfl,rfl⟩
     ·refine goS ?_
      refine qP (qC) ?_
      obtain⟨⟨⟨x26_0_0,x26_0_1,x26_0_2⟩,⟨x26_1_0,x26_1_1,x26_1_2⟩⟩,hx26,h⟩:=gK h
      refine zI 0 (hrec_l32Ty (jA.mk x22_1_0 x22_1_1 x22_1_2) (IntKind.i64.wrap (a1 - 1)) hx26) ?_
      refine goL ?_
      refine qP (qC) ?_
      obtain⟨⟨⟨x27_0_0,x27_0_1,x27_0_2⟩,⟨x27_1_0,x27_1_1,x27_1_2⟩⟩,hx27,h⟩:=gK h
      refine zI 0 (hrec_l32Ty (jA.mk x26_1_0 x26_1_1 x26_1_2) (IntKind.i64.wrap (a1 - 1)) hx27) ?_
      refine gM3 (us:=gJ [(gD.mk x26_0_0 x26_0_1 x26_0_2),(gD.mk x27_0_0 x27_0_1 x27_0_2)]) ?_
      refine vO 2 rfl rfl ?_
      obtain⟨⟨x28_0,x28_1,x28_2⟩,hx28,h⟩:=gK h
      refine gFl (gXe (gKx [112,97,105,114] [(gD.mk x26_0_0 x26_0_1 x26_0_2),(gD.mk x27_0_0 x27_0_1 x27_0_2)] hx28)) ?_
      refine jN ?_
      obtain rfl:=Option.some.inj h
      exact gFk [.d (.st [.i .i64 x28_0,.s x28_1,.sl 3 (gJ x28_2)])] [.box [.L 1 (kQ x27_1_0),.I x27_1_1,.I x27_1_2]] ⟨rfl,rfl⟩
def gH9:Nat→jA→Int→Option (gD × jA)
 | 0,_,_=>none
 | n+1,x0,x1=>gNj (gH9 n) x0 x1
theorem kJ:∀(n:Nat) (x0:jA) (x1:Int) {r:gD × jA},gH9 n x0 x1=some r→Go.Eng.Spec Tryz.prog 23 [.ptr 0 0,.I x1] [.box [.L 1 (kQ x0.b),.I x0.i,.I x0.h]] (fun sv Lo=>sv=.d (jP r.1)∧Lo=[.box [.L 1 (kQ r.2.b),.I r.2.i,.I r.2.h]]):=by
 intro n
 induction n with
 | zero=>intro x0 x1 r h;cases h
 | succ n ih=>intro x0 x1 r h;exact hEz ih x0 x1 h
def gFg(rec_l2Form:gB→Option (Bool)):List gB→Option (Bool)
 | []=>(some true)
 | x7::xs=>bnd (rec_l2Form x7) fun x8=>
(cnd (!x8) (
(some false)) (
gFg rec_l2Form xs ))
def gP2(rec_l2Form:gB→Option (Bool))(a0:gB):Option (Bool):=
(cnd (!(a0.atom==[])) (
lt_ ((cnd (gC5 a0.atom) (((a0.list.length:Int)==0)) (false))) fun b2=>
(some b2)) (
gFg rec_l2Form a0.list ))
theorem hBn{rec_l2Form:gB→Option (Bool)}(hrec_l2Form:∀(x0:gB) {r:Bool},rec_l2Form x0=some r→jB Tryz.prog 94 [.d (mF x0)] [.b r])(a0:gB){r:Bool}(h:gP2 rec_l2Form a0=some r):jB Tryz.prog 94 [.d (mF a0)] [.b r]:=by
 obtain⟨a0_0,a0_1⟩:=a0
 unfold gP2 at h
 refine SpI Tryz.func94 fun A _=>?_
 refine goC h ?_ ?_<;>intro c1 h
 ·refine goL ?_
  refine jI (gF (gNv a0_0)) ?_
  obtain⟨b2,hb2,h⟩:=qR h
  refine jU ⟨[(2,.B b2)],[.box [.S a0_0,.L 2 (gM a0_1)]],Tryz.f94.ntmps⟩ ?_ ?_
  ·refine gN 10 (fun c3=>?_) (fun c3=>?_)
   ·replace hb2:=gX c3 hb2
    refine goL ?_
    cases hb2
    exact eJ
   ·replace hb2:=gY c3 hb2
    refine goL ?_
    cases hb2
    exact eJ
  exact goR h
 ·refine goS ?_
  refine noB ?_
  refine vN 0 1 (fun z5=>?_)
  refine pJ (fun(y4:Nat)=>⟨[(1,.ptr 0 0),(3,.N y4)],[.box [.S a0_0,.L 2 (gM a0_1)]],Tryz.f94.ntmps⟩) (fun y4=>gFg rec_l2Form (a0_1.drop y4)  =some r) (fun y4=>a0_1.length - y4) 0 eJ h ?_
  rintro y4 h
  refine goL ?_
  refine mO (fun c6=>?_) (fun c6=>?_)
  ·have hky42:=wE c6
   obtain⟨x7,hx7,hdx7⟩:=drop_at hky42
   rw [hdx7,gFg.eq_2] at h
   obtain⟨x7_0,x7_1⟩:=x7
   refine noS ?_
   refine kI (jE ?_)
   refine goL ?_
   refine jI (jJ y4 (qO hx7)) ?_
   obtain⟨x8,hx8,h⟩:=gK h
   refine jI (gF (hrec_l2Form (gB.mk x7_0 x7_1) hx8)) ?_
   refine mO (fun c9=>?_) (fun c9=>?_)
   ·replace h:=gX c9 h
    exact goR h
   ·replace h:=gY c9 h
    refine goS ?_
    refine jI (jS y4 (by omega)) ?_
    exact⟨(y4+1),h,by omega,eJ⟩
  ·have hky42:=wF c6
   rw [jF hky42,gFg.eq_1] at h
   refine goX ?_
   refine jN ?_
   cases h
   exact qK
def gP3:Nat→gB→Option (Bool)
 | 0,_=>none
 | n+1,x0=>gP2 (gP3 n) x0
theorem hBo:∀(n:Nat) (x0:gB) {r:Bool},gP3 n x0=some r→jB Tryz.prog 94 [.d (mF x0)] [.b r]:=by
 intro n
 induction n with
 | zero=>intro x0 r h;cases h
 | succ n ih=>intro x0 r h;exact hBn ih x0 h
def gFh:List gB→(List gD)→Option (List gD)
 | [],y1=>(some y1)
 | x6::xs,y1=>bnd (gIv 5000 x6) fun x7=>
gd (y1.length+[x7].length≤4294967296) (
gFh xs (y1++[x7]))
def gLz(a0:List gB):Option (List gD):=
gFh a0 []
theorem gUh(a0:List gB){r:List gD}(h:gLz a0=some r):jB Tryz.prog 115 [.L 2 (gM a0)] [.sl 3 (gJ r)]:=by
 unfold gLz at h
 refine SpI Tryz.func115 fun A _=>?_
 refine goL ?_
 refine zN ?_
 refine goL ?_
 refine noB ?_
 refine gFj 0 (fun z4=>?_)
 refine kR (fun(y3:Nat) (y1:List gD) (v2:Nat)=>⟨[(0,.L 2 (gM a0)),(3,.sl 0 v2),(4,.N y3)],[.arr 32 3 v2 (gJ y1)],Tryz.f115.ntmps⟩) (fun y3 y1 v2=>gFh (a0.drop y3) y1=some r) (fun y3 y1 v2=>a0.length - y3) 0 [] 0 eJ h ?_
 rintro y3 y1 v2 h
 refine goL ?_
 refine mO (fun c5=>?_) (fun c5=>?_)
 ·have hky32:=wE c5
  obtain⟨x6,hx6,hdx6⟩:=drop_at hky32
  rw [hdx6,gFh.eq_2] at h
  obtain⟨x6_0,x6_1⟩:=x6
  refine noS ?_
  refine kI (jE ?_)
  refine goL ?_
  refine jI (jJ y3 (qO hx6)) ?_
  obtain⟨⟨x7_0,x7_1,x7_2⟩,hx7,h⟩:=gK h
  refine qP (gF (gK5 5000 (gB.mk x6_0 x6_1) hx7)) ?_
  refine gBc (u:=(.st [.i .i64 x7_0,.s x7_1,.sl 3 (gJ x7_2)])) ?_
  obtain⟨g8,h⟩:=mZ h
  refine gBf g8 ?_
  refine goL ?_
  refine jI (jS y3 (by omega)) ?_
  exact⟨(y3+1),(y1++[(gD.mk x7_0 x7_1 x7_2)]),(v2+1),h,by omega,eJ⟩
 ·have hky32:=wF c5
  rw [jF hky32,gFh.eq_1] at h
  refine goX ?_
  refine kK 0 rfl rfl ?_
  refine jN ?_
  cases h
  exact qK
end Go.Proofs.YtfaplndgbgoaaaaGreatDoor
set_option maxHeartbeats 4000000
set_option linter.unusedVariables false
set_option linter.unusedSimpArgs false
set_option linter.unusedSectionVars false
namespace Go.Proofs.YtfaplndgbgoaaaaGreatDoor
open Go Go.Eng
attribute [local irreducible] V VO VQ VY Quiet QR jB kX Rng uJ uY qW
def gF1(a0:List gB):Option (gB):=
gd (([]:List gB).length+a0.length≤4294967296) (
(some (gB.mk [] ([]++a0))))
theorem gIn(a0:List gB){r:gB}(h:gF1 a0=some r):jB Tryz.prog 141 [.L 2 (gM a0)] [mF r]:=by
 unfold gF1 at h
 refine SpI Tryz.func141 fun A _=>?_
 refine goL ?_
 refine zN ?_
 refine goL ?_
 obtain⟨g1,h⟩:=mZ h
 refine gBf g1 ?_
 refine gFl (kD TBd.h TZ.h rfl (by repeat constructor)) ?_
 refine kK 1 rfl rfl ?_
 refine jN ?_
 cases h
 exact qK
end Go.Proofs.YtfaplndgbgoaaaaGreatDoor
set_option maxHeartbeats 4000000
set_option linter.unusedVariables false
set_option linter.unusedSimpArgs false
set_option linter.unusedSectionVars false
namespace Go.Proofs.YtfaplndgbgoaaaaGreatDoor
open Go Go.Eng
attribute [local irreducible] V VO VQ VY Quiet QR jB kX Rng uJ uY qW
def gGl(list:List gB):Option (gB):=
gd (([]:List gB).length+list.length≤4294967296) (
(some (gB.mk [] ([]++list))))
theorem uF(list:List gB){r:gB}(h:gGl list=some r):Go.Eng.Spec Tryz.prog 141 [.L 2 (gM list)] [] (fun sv Lo=>sv=.ag [.S r.atom,.sl 0 0]∧Lo=[.arr 107 2 0 (gM r.list)]):=by
 unfold gGl at h
 refine mP 0 Tryz.func141 rfl (by kernel_rfl) rfl rfl fun A _=>?_
 refine goL ?_
 refine zN ?_
 refine goL ?_
 obtain⟨g1,h⟩:=mZ h
 refine gBf g1 ?_
 refine gFl (kD TBd.h TZ.h rfl (by repeat constructor)) ?_
 refine hRd (fr':=[(2,.ptr 1 0)]) (Lc:=[.arr 107 2 (0+1) (gM ([]++list)),.box [.S [],.sl 0 (0+1)]]) 0 [1,0] ?_
 refine hUe (fr':=[(2,.ptr 1 0)]) (L':=[.arr 107 2 0 (gM ([]++list)),.box [.S [],.sl 0 0]]) 0 0 ?_
 refine jN ?_
 obtain rfl:=Option.some.inj h
 exact gFk [.ag [.S [],.sl 0 0]] [.arr 107 2 0 (gM ([]++list))] ⟨rfl,rfl⟩
end Go.Proofs.YtfaplndgbgoaaaaGreatDoor
