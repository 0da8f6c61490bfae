import Derived.Test.YtfaplndgbgoaaaaGreatDoorEng38
import Derived.Test.YtfaplndgbgoaaaaGreatDoorEng67
import Derived.Test.YtfaplndgbgoaaaaGreatDoorVr
import Derived.Test.YtfaplndgbgoaaaaGreatDoorB14
import Derived.Test.YtfaplndgbgoaaaaGreatDoorB11
import Derived.Test.YtfaplndgbgoaaaaGreatDoorB12
import Derived.Test.YtfaplndgbgoaaaaGreatDoorB16
import Derived.Test.YtfaplndgbgoaaaaGreatDoorB17
import Derived.Test.YtfaplndgbgoaaaaGreatDoorB2
import Derived.Test.YtfaplndgbgoaaaaGreatDoorB3
import Derived.Test.YtfaplndgbgoaaaaGreatDoorB4
import Derived.Test.YtfaplndgbgoaaaaGreatDoorB5
import Derived.Test.YtfaplndgbgoaaaaGreatDoorB6
import Derived.Test.YtfaplndgbgoaaaaGreatDoorB9
import Derived.Test.YtfaplndgbgoaaaaGreatDoorB15
set_option maxHeartbeats 4000000
set_option linter.unusedVariables false
set_option linter.unusedSimpArgs false
set_option linter.unusedSectionVars false
namespace Go.Proofs.YtfaplndgbgoaaaaGreatDoor
open Go Go.Eng
attribute [local irreducible] V VO VQ VY Quiet QR jB kX Rng uJ uY qW
def zS(a0:gH)(a1:List jD)(a2:gG)(a3:gD)(a4:gD):Option (gG):=
bnd (wZ 5000 a0 a1 a2 a3 a4 40) fun x1=>
bnd (gF9 x1) fun x2=>
(some x2)
theorem gW(a0:gH)(a1:List jD)(a2:gG)(a3:gD)(a4:gD){r:gG}(h:zS a0 a1 a2 a3 a4=some r):jB Tryz.prog 22 [.d (kT a0),.L 4 (jT a1),.d (mE a2),.d (jP a3),.d (jP a4)] [mE r]:=by
 obtain⟨a0_0⟩:=a0
 obtain⟨a2_0,a2_1,a2_2,a2_3,a2_4,a2_5,a2_6,a2_7⟩:=a2
 obtain⟨a3_0,a3_1,a3_2⟩:=a3
 obtain⟨a4_0,a4_1,a4_2⟩:=a4
 unfold zS at h
 refine SpI Tryz.func22 fun A _=>?_
 refine goL ?_
 obtain⟨⟨x1_0,x1_1,x1_2,x1_3,x1_4,x1_5,x1_6,x1_7⟩,hx1,h⟩:=gK h
 refine qP (gF (gSa 5000 (gH.mk a0_0) a1 (gG.mk a2_0 a2_1 a2_2 a2_3 a2_4 a2_5 a2_6 a2_7) (gD.mk a3_0 a3_1 a3_2) (gD.mk a4_0 a4_1 a4_2) 40 hx1)) ?_
 obtain⟨⟨x2_0,x2_1,x2_2,x2_3,x2_4,x2_5,x2_6,x2_7⟩,hx2,h⟩:=gK h
 refine qP (gF (gU7 (gG.mk x1_0 x1_1 x1_2 x1_3 x1_4 x1_5 x1_6 x1_7) hx2)) ?_
 exact goR h
def wT(x15:gB):List pU→(List gB)→Option (gB)
 | [],y16=>bnd (gKg true (gB.mk x15.atom y16)) fun x33=>
(some x33)
 | x21::xs,y16=>lt_ (kV x21.name) fun x22=>
bnd (gIc x21.params) fun x23=>
bnd (gIw 5000 x21.result) fun x24=>
bnd (gGl [x22,(gB.mk [] x23),x24]) fun x25=>
bnd ((cnd x21.hasDefault (
bnd (zR x21.vars) fun x29=>
bnd (gI4 5000 x21.body) fun x30=>
gd (x25.list.length+[x29,x30].length≤4294967296) (
(some (x25.list++[x29,x30])))) (
(some x25.list)))) fun b26=>
gd (y16.length+[(gB.mk x25.atom b26)].length≤4294967296) (
wT x15 xs (y16++[(gB.mk x25.atom b26)]))
def gEv(a0:qV):Option (gB):=
bnd (gB5 a0) fun x1=>
(cnd (!x1) (
(some (gB.mk [] []))) (
bnd ((cnd a0.auto (
gd (([]:List (List UInt8)).length+([[97,117,116,111]]:List (List UInt8)).length≤4294967296) (
(some ([]++[[97,117,116,111]])))) (
(some [])))) fun b3=>
bnd ((cnd a0.assoc (
gd (b3.length+([[97,115,115,111,99]]:List (List UInt8)).length≤4294967296) (
(some (b3++[[97,115,115,111,99]])))) (
(some b3)))) fun b7=>
lt_ (kV [116,114,97,105,116]) fun x11=>
lt_ (kV a0.name) fun x12=>
bnd (zR a0.supertraits) fun x13=>
bnd (zR b7) fun x14=>
bnd (gGl [x11,x12,x13,x14]) fun x15=>
wT x15 a0.signatures x15.list))
theorem gL9(a0:qV){r:gB}(h:gEv a0=some r):jB Tryz.prog 119 [.d (gJ3 a0)] [mF r]:=by
 obtain⟨a0_0,a0_1,a0_2,a0_3,a0_4⟩:=a0
 unfold gEv at h
 refine SpI Tryz.func119 fun A _=>?_
 refine goL ?_
 obtain⟨x1,hx1,h⟩:=gK h
 refine jI (gF (gHn (qV.mk a0_0 a0_1 a0_2 a0_3 a0_4) hx1)) ?_
 refine mO (fun c2=>?_) (fun c2=>?_)
 ·replace h:=gX c2 h
  refine goL ?_
  refine gA6 (kD TBd.h TZ.h rfl (by repeat constructor)) ?_
  exact goR h
 ·replace h:=gY c2 h
  refine goS ?_
  refine gFc ?_
  refine goL ?_
  obtain⟨b3,hb3,h⟩:=gK h
  refine gKs (fun v4=>⟨[(1,.ptr 0 0),(2,.ptr 1 0),(3,.sl 2 v4)],[.box [.S a0_0,.L 1 (gZ a0_1),.B a0_2,.B a0_3,.L 16 (kU a0_4)],.box [.S [],.nilsl],.own 9 1 v4 (gZ b3)],Tryz.f119.ntmps⟩) ?_ (fun v4=>?_)
  ·refine mO (fun c5=>?_) (fun c5=>?_)
   ·replace hb3:=gX c5 hb3
    refine goL ?_
    refine gA7 ([97,117,116,111]:List UInt8) ?_
    obtain⟨g6,hb3⟩:=mZ hb3
    refine gGg g6 ?_
    refine goL ?_
    cases hb3
    exact⟨(0+1),eJ⟩
   ·replace hb3:=gY c5 hb3
    refine gAi ?_
    cases hb3
    exact⟨0,eJ⟩
  refine goL ?_
  obtain⟨b7,hb7,h⟩:=gK h
  refine gKs (fun v8=>⟨[(1,.ptr 0 0),(2,.ptr 1 0),(3,.sl 2 v8)],[.box [.S a0_0,.L 1 (gZ a0_1),.B a0_2,.B a0_3,.L 16 (kU a0_4)],.box [.S [],.nilsl],.own 9 1 v8 (gZ b7)],Tryz.f119.ntmps⟩) ?_ (fun v8=>?_)
  ·refine mO (fun c9=>?_) (fun c9=>?_)
   ·replace hb7:=gX c9 hb7
    refine goL ?_
    refine gA7 ([97,115,115,111,99]:List UInt8) ?_
    obtain⟨g10,hb7⟩:=mZ hb7
    refine gGg g10 ?_
    refine goL ?_
    cases hb7
    exact⟨(v4+1),eJ⟩
   ·replace hb7:=gY c9 hb7
    refine gAi ?_
    cases hb7
    exact⟨v4,eJ⟩
  refine gHk ?_
  refine wL 2 rfl rfl ?_
  refine hKg ?_
  obtain⟨⟨x11_0,x11_1⟩,hx11,h⟩:=qR h
  have sx11:=mG [116,114,97,105,116]
  rw [hx11] at sx11
  obtain⟨⟨x12_0,x12_1⟩,hx12,h⟩:=qR h
  have sx12:=mG a0_0
  rw [hx12] at sx12
  obtain⟨⟨x13_0,x13_1⟩,hx13,h⟩:=gK h
  obtain⟨⟨x14_0,x14_1⟩,hx14,h⟩:=gK h
  obtain⟨⟨x15_0,x15_1⟩,hx15,h⟩:=gK h
  refine uZ (P:=Tryz.prog) Mix.h (.q 0 (.q 1 (.q 2 (.q 3 (.q 4 (.q 5 (.q 6 (.q 7 (.q 8 (.h 9 (.h 10 (.h 11 (.h 12 .nil .nil) .nil) (.h 11 (.h 10 (.h 12 .nil .nil) .nil) .nil)) (.h 11 (.h 9 (.h 10 (.h 12 .nil .nil) .nil) .nil) .nil))))))))))) ⟨[(1,.ptr 0 0),(2,.ptr 1 0),(4,.ptr 5 0)],[.box [.S a0_0,.L 1 (gZ a0_1),.B a0_2,.B a0_3,.L 16 (kU a0_4)],.box [.S [],.nilsl],.frz 9 1 v8 (gZ b7),.frz 107 2 0 (gM [(gB.mk x11_0 x11_1),(gB.mk x12_0 x12_1),(gB.mk x13_0 x13_1),(gB.mk x14_0 x14_1)]),.arr 107 2 0 (gM x15_1),.box [.S x15_0,.sl 4 0]],Tryz.f119.ntmps⟩ (by kernel_rfl) ?_ ?_
  ·refine zW (jC rfl (gF (sx11)) jQ) ?_
   refine goT ?_
   refine zW (jC rfl (gF (sx12)) jQ) ?_
   refine goT ?_
   refine zW (jC rfl (gF (qQ a0_1 hx13)) jQ) ?_
   refine goT ?_
   refine zW (jC rfl (gF (qQ b7 hx14)) jQ) ?_
   refine wQ (pY (T:=105) (us:=gM [(gB.mk x11_0 x11_1),(gB.mk x12_0 x12_1),(gB.mk x13_0 x13_1),(gB.mk x14_0 x14_1)]) jQ) ?_ ?_
   ·refine wQ (zO 3 rfl rfl (gBy (sv:=.ag [.S x15_0,.sl 4 0]) (L':=[.box [.S a0_0,.L 1 (gZ a0_1),.B a0_2,.B a0_3,.L 16 (kU a0_4)],.box [.S [],.nilsl],.frz 9 1 v8 (gZ b7),.frz 107 2 0 (gM [(gB.mk x11_0 x11_1),(gB.mk x12_0 x12_1),(gB.mk x13_0 x13_1),(gB.mk x14_0 x14_1)]),.arr 107 2 0 (gM x15_1)]) [] (uF [(gB.mk x11_0 x11_1),(gB.mk x12_0 x12_1),(gB.mk x13_0 x13_1),(gB.mk x14_0 x14_1)] hx15) jQ)) ?_ ?_
    ·refine goT ?_
     refine jW ?_
     exact vG 0 [0,1,2,3,4,5]
    refine goT ?_
    refine jO (zO 3 rfl rfl (gBy (sv:=.ag [.S x15_0,.sl 5 0]) (L':=[.box [.S a0_0,.L 1 (gZ a0_1),.B a0_2,.B a0_3,.L 16 (kU a0_4)],.box [.S [],.nilsl],.frz 9 1 v8 (gZ b7),.frz 107 2 0 (gM [(gB.mk x11_0 x11_1),(gB.mk x12_0 x12_1),(gB.mk x13_0 x13_1),(gB.mk x14_0 x14_1)]),.box [.S [],.nilsl],.arr 107 2 0 (gM x15_1)]) [] (uF [(gB.mk x11_0 x11_1),(gB.mk x12_0 x12_1),(gB.mk x13_0 x13_1),(gB.mk x14_0 x14_1)] hx15) jQ)) ?_
    refine goT ?_
    refine jW ?_
    exact vG 0 [0,1,2,3,5,4]
   refine goT ?_
   refine jO (pY (T:=105) (us:=gM [(gB.mk x11_0 x11_1),(gB.mk x12_0 x12_1),(gB.mk x13_0 x13_1),(gB.mk x14_0 x14_1)]) jQ) ?_
   refine jO (zO 4 rfl rfl (gBy (sv:=.ag [.S x15_0,.sl 5 0]) (L':=[.box [.S a0_0,.L 1 (gZ a0_1),.B a0_2,.B a0_3,.L 16 (kU a0_4)],.box [.S [],.nilsl],.frz 9 1 v8 (gZ b7),.box [.S [],.nilsl],.frz 107 2 0 (gM [(gB.mk x11_0 x11_1),(gB.mk x12_0 x12_1),(gB.mk x13_0 x13_1),(gB.mk x14_0 x14_1)]),.arr 107 2 0 (gM x15_1)]) [] (uF [(gB.mk x11_0 x11_1),(gB.mk x12_0 x12_1),(gB.mk x13_0 x13_1),(gB.mk x14_0 x14_1)] hx15) jQ)) ?_
   refine goT ?_
   refine jW ?_
   exact vG 0 [0,1,2,4,5,3]
  refine goL ?_
  refine noB ?_
  refine vN 0 4 (fun z19=>?_)
  refine kR (fun(y18:Nat) (y16:List gB) (v17:Nat)=>⟨[(1,.ptr 0 0),(2,.ptr 1 0),(4,.ptr 5 0),(5,.N y18)],[.box [.S a0_0,.L 1 (gZ a0_1),.B a0_2,.B a0_3,.L 16 (kU a0_4)],.box [.S [],.nilsl],.frz 9 1 v8 (gZ b7),.frz 107 2 0 (gM [(gB.mk x11_0 x11_1),(gB.mk x12_0 x12_1),(gB.mk x13_0 x13_1),(gB.mk x14_0 x14_1)]),.arr 107 2 v17 (gM y16),.box [.S x15_0,.sl 4 v17]],Tryz.f119.ntmps⟩) (fun y18 y16 v17=>wT (gB.mk x15_0 x15_1) (a0_4.drop y18) y16=some r) (fun y18 y16 v17=>a0_4.length - y18) 0 x15_1 0 eJ h ?_
  rintro y18 y16 v17 h
  refine goL ?_
  refine mO (fun c20=>?_) (fun c20=>?_)
  ·have hky182:=wE c20
   obtain⟨x21,hx21,hdx21⟩:=drop_at hky182
   rw [hdx21,wT.eq_2] at h
   obtain⟨x21_0,x21_1,⟨x21_2_0,x21_2_1,x21_2_2⟩,x21_3,x21_4,⟨x21_5_0,x21_5_1,x21_5_2,x21_5_3,⟨x21_5_4_0,x21_5_4_1,x21_5_4_2⟩,x21_5_5,x21_5_6⟩⟩:=x21
   refine noS ?_
   refine kI (jE ?_)
   refine goL ?_
   refine qP (jJ y18 (gKq hx21)) ?_
   refine gHk ?_
   obtain⟨⟨x22_0,x22_1⟩,hx22,h⟩:=qR h
   have sx22:=mG x21_0
   rw [hx22] at sx22
   obtain⟨x23,hx23,h⟩:=gK h
   obtain⟨⟨x24_0,x24_1⟩,hx24,h⟩:=gK h
   obtain⟨⟨x25_0,x25_1⟩,hx25,h⟩:=gK h
   refine uZ (P:=Tryz.prog) Mix.h (.q 0 (.q 1 (.q 2 (.q 3 (.q 4 (.q 5 (.q 6 (.q 7 (.q 8 (.q 9 (.h 10 (.h 11 (.h 12 (.h 13 .nil .nil) .nil) (.h 12 (.h 11 (.h 13 .nil .nil) .nil) .nil)) (.h 12 (.h 10 (.h 11 (.h 13 .nil .nil) .nil) .nil) .nil)))))))))))) ⟨[(1,.ptr 0 0),(2,.ptr 1 0),(4,.ptr 5 0),(5,.N y18),(6,.ptr 6 0),(7,.ptr 9 0)],[.box [.S a0_0,.L 1 (gZ a0_1),.B a0_2,.B a0_3,.L 16 (kU a0_4)],.box [.S [],.nilsl],.frz 9 1 v8 (gZ b7),.frz 107 2 0 (gM [(gB.mk x11_0 x11_1),(gB.mk x12_0 x12_1),(gB.mk x13_0 x13_1),(gB.mk x14_0 x14_1)]),.arr 107 2 v17 (gM y16),.box [.S x15_0,.sl 4 v17],.box [.S x21_0,.L 3 (gJ x21_1),.I x21_2_0,.S x21_2_1,.L 3 (gJ x21_2_2),.B x21_3,.L 1 (gZ x21_4),.I x21_5_0,.S x21_5_1,.S x21_5_2,.I x21_5_3,.I x21_5_4_0,.S x21_5_4_1,.L 3 (gJ x21_5_4_2),.L 9 (kP x21_5_5),.L 11 (qD x21_5_6)],.frz 107 2 0 (gM [(gB.mk x22_0 x22_1),(gB.mk [] x23),(gB.mk x24_0 x24_1)]),.arr 107 2 0 (gM x25_1),.box [.S x25_0,.sl 8 0]],Tryz.f119.ntmps⟩ (by kernel_rfl) ?_ ?_
   ·refine goT ?_
    refine zW (jC rfl (gF (sx22)) jQ) ?_
    refine goT ?_
    refine zW (jC rfl (gF (gN5 x21_1 hx23)) jQ) ?_
    refine goT ?_
    refine zW (jC rfl (gF (gHd 5000 (gD.mk x21_2_0 x21_2_1 x21_2_2) hx24)) jQ) ?_
    refine wQ (pY (T:=105) (us:=gM [(gB.mk x22_0 x22_1),(gB.mk [] x23),(gB.mk x24_0 x24_1)]) jQ) ?_ ?_
    ·refine wQ (zO 7 rfl rfl (gBy (sv:=.ag [.S x25_0,.sl 8 0]) (L':=[.box [.S a0_0,.L 1 (gZ a0_1),.B a0_2,.B a0_3,.L 16 (kU a0_4)],.box [.S [],.nilsl],.frz 9 1 v8 (gZ b7),.frz 107 2 0 (gM [(gB.mk x11_0 x11_1),(gB.mk x12_0 x12_1),(gB.mk x13_0 x13_1),(gB.mk x14_0 x14_1)]),.arr 107 2 v17 (gM y16),.box [.S x15_0,.sl 4 v17],.box [.S x21_0,.L 3 (gJ x21_1),.I x21_2_0,.S x21_2_1,.L 3 (gJ x21_2_2),.B x21_3,.L 1 (gZ x21_4),.I x21_5_0,.S x21_5_1,.S x21_5_2,.I x21_5_3,.I x21_5_4_0,.S x21_5_4_1,.L 3 (gJ x21_5_4_2),.L 9 (kP x21_5_5),.L 11 (qD x21_5_6)],.frz 107 2 0 (gM [(gB.mk x22_0 x22_1),(gB.mk [] x23),(gB.mk x24_0 x24_1)]),.arr 107 2 0 (gM x25_1)]) [] (uF [(gB.mk x22_0 x22_1),(gB.mk [] x23),(gB.mk x24_0 x24_1)] hx25) jQ)) ?_ ?_
     ·refine goT ?_
      refine jW ?_
      exact vG 0 [0,1,2,3,4,5,6,7,8,9]
     refine goT ?_
     refine jO (zO 7 rfl rfl (gBy (sv:=.ag [.S x25_0,.sl 9 0]) (L':=[.box [.S a0_0,.L 1 (gZ a0_1),.B a0_2,.B a0_3,.L 16 (kU a0_4)],.box [.S [],.nilsl],.frz 9 1 v8 (gZ b7),.frz 107 2 0 (gM [(gB.mk x11_0 x11_1),(gB.mk x12_0 x12_1),(gB.mk x13_0 x13_1),(gB.mk x14_0 x14_1)]),.arr 107 2 v17 (gM y16),.box [.S x15_0,.sl 4 v17],.box [.S x21_0,.L 3 (gJ x21_1),.I x21_2_0,.S x21_2_1,.L 3 (gJ x21_2_2),.B x21_3,.L 1 (gZ x21_4),.I x21_5_0,.S x21_5_1,.S x21_5_2,.I x21_5_3,.I x21_5_4_0,.S x21_5_4_1,.L 3 (gJ x21_5_4_2),.L 9 (kP x21_5_5),.L 11 (qD x21_5_6)],.frz 107 2 0 (gM [(gB.mk x22_0 x22_1),(gB.mk [] x23),(gB.mk x24_0 x24_1)]),.box [.S [],.nilsl],.arr 107 2 0 (gM x25_1)]) [] (uF [(gB.mk x22_0 x22_1),(gB.mk [] x23),(gB.mk x24_0 x24_1)] hx25) jQ)) ?_
     refine goT ?_
     refine jW ?_
     exact vG 0 [0,1,2,3,4,5,6,7,9,8]
    refine goT ?_
    refine jO (pY (T:=105) (us:=gM [(gB.mk x22_0 x22_1),(gB.mk [] x23),(gB.mk x24_0 x24_1)]) jQ) ?_
    refine jO (zO 8 rfl rfl (gBy (sv:=.ag [.S x25_0,.sl 9 0]) (L':=[.box [.S a0_0,.L 1 (gZ a0_1),.B a0_2,.B a0_3,.L 16 (kU a0_4)],.box [.S [],.nilsl],.frz 9 1 v8 (gZ b7),.frz 107 2 0 (gM [(gB.mk x11_0 x11_1),(gB.mk x12_0 x12_1),(gB.mk x13_0 x13_1),(gB.mk x14_0 x14_1)]),.arr 107 2 v17 (gM y16),.box [.S x15_0,.sl 4 v17],.box [.S x21_0,.L 3 (gJ x21_1),.I x21_2_0,.S x21_2_1,.L 3 (gJ x21_2_2),.B x21_3,.L 1 (gZ x21_4),.I x21_5_0,.S x21_5_1,.S x21_5_2,.I x21_5_3,.I x21_5_4_0,.S x21_5_4_1,.L 3 (gJ x21_5_4_2),.L 9 (kP x21_5_5),.L 11 (qD x21_5_6)],.box [.S [],.nilsl],.frz 107 2 0 (gM [(gB.mk x22_0 x22_1),(gB.mk [] x23),(gB.mk x24_0 x24_1)]),.arr 107 2 0 (gM x25_1)]) [] (uF [(gB.mk x22_0 x22_1),(gB.mk [] x23),(gB.mk x24_0 x24_1)] hx25) jQ)) ?_
    refine goT ?_
    refine jW ?_
    exact vG 0 [0,1,2,3,4,5,6,8,9,7]
   refine goL ?_
   obtain⟨b26,hb26,h⟩:=gK h
   refine gKs (fun v27=>⟨[(1,.ptr 0 0),(2,.ptr 1 0),(4,.ptr 5 0),(5,.N y18),(7,.ptr 9 0)],[.box [.S a0_0,.L 1 (gZ a0_1),.B a0_2,.B a0_3,.L 16 (kU a0_4)],.box [.S [],.nilsl],.frz 9 1 v8 (gZ b7),.frz 107 2 0 (gM [(gB.mk x11_0 x11_1),(gB.mk x12_0 x12_1),(gB.mk x13_0 x13_1),(gB.mk x14_0 x14_1)]),.arr 107 2 v17 (gM y16),.box [.S x15_0,.sl 4 v17],.box [.S x21_0,.L 3 (gJ x21_1),.I x21_2_0,.S x21_2_1,.L 3 (gJ x21_2_2),.B x21_3,.L 1 (gZ x21_4),.I x21_5_0,.S x21_5_1,.S x21_5_2,.I x21_5_3,.I x21_5_4_0,.S x21_5_4_1,.L 3 (gJ x21_5_4_2),.L 9 (kP x21_5_5),.L 11 (qD x21_5_6)],.frz 107 2 0 (gM [(gB.mk x22_0 x22_1),(gB.mk [] x23),(gB.mk x24_0 x24_1)]),.arr 107 2 v27 (gM b26),.box [.S x25_0,.sl 8 v27]],Tryz.f119.ntmps⟩) ?_ (fun v27=>?_)
   ·refine mO (fun c28=>?_) (fun c28=>?_)
    ·replace hb26:=gX c28 hb26
     refine uX (P:=Tryz.prog) Mix.h [(0,true),(1,true),(2,true),(3,true),(4,true),(5,true),(6,true),(7,true),(8,false),(9,false),(10,true),(11,false)] (by kernel_rfl) ?_
     refine goY ?_
     obtain⟨⟨x29_0,x29_1⟩,hx29,hb26⟩:=gK hb26
     refine jC rfl (gF (qQ x21_4 hx29)) ?_
     refine goY ?_
     obtain⟨⟨x30_0,x30_1⟩,hx30,hb26⟩:=gK hb26
     refine jC rfl (gF (gR8 5000 (jM.mk x21_5_0 x21_5_1 x21_5_2 x21_5_3 (gD.mk x21_5_4_0 x21_5_4_1 x21_5_4_2) x21_5_5 x21_5_6) hx30)) ?_
     refine pY (T:=105) (us:=gM [(gB.mk x29_0 x29_1),(gB.mk x30_0 x30_1)]) ?_
     obtain⟨g31,hb26⟩:=mZ hb26
     refine pV (T:=105) g31 ?_
     refine goY ?_
     refine kS ?_
     refine goL ?_
     cases hb26
     exact⟨(0+1),eJ⟩
    ·replace hb26:=gY c28 hb26
     refine gAi ?_
     cases hb26
     exact⟨0,eJ⟩
   refine goL ?_
   refine vO 8 rfl rfl ?_
   refine gX4 ?_
   refine gBc (u:=(.st [.s x25_0,.sl 2 (gM b26)])) ?_
   obtain⟨g32,h⟩:=mZ h
   refine gBf g32 ?_
   refine goL ?_
   refine jI (jS y18 (by omega)) ?_
   exact⟨(y18+1),(y16++[(gB.mk x25_0 b26)]),(v17+1),h,by omega,eJ⟩
  ·have hky182:=wF c20
   rw [jF hky182,wT.eq_1] at h
   refine goX ?_
   refine vO 4 rfl rfl ?_
   refine gX4 ?_
   obtain⟨⟨x33_0,x33_1⟩,hx33,h⟩:=gK h
   refine gA6 (gXe (gOs true (gB.mk x15_0 y16) hx33)) ?_
   exact goR h
def uS(a0:gB)(x1:gB)(x3:List (List UInt8))(x5:gD)(x7:List jD)(x8:gB)(b10:Bool × Int × List UInt8 × List gD):List gB→(List gBo)→Option (jZ × Bool)
 | [],y15=>bnd (bnd (pW a0) fun x28=>
(cnd (!x28) ((some true)) ((cnd ((a0.list.length:Int)==0) ((some true)) (bnd (gB7 (jZ.mk x1.atom x3 x5 x7 (decide ((x8.list.length:Int) > 0)) b10.1 (gD.mk b10.2.1 b10.2.2.1 b10.2.2.2) y15)) fun x31=>
bnd (gAt 5000 x31 a0) fun x32=>
(some (!x32))))))) fun b27=>
(cnd b27 (
(some ((jZ.mk [] [] (gD.mk 0 [] []) [] false false (gD.mk 0 [] []) []),false))) (
(some ((jZ.mk x1.atom x3 x5 x7 (decide ((x8.list.length:Int) > 0)) b10.1 (gD.mk b10.2.1 b10.2.2.1 b10.2.2.2) y15),true))))
 | x20::xs,y15=>bnd (pX x20 0) fun x21=>
bnd (pX x20 1) fun x22=>
bnd (gAw x22) fun x23=>
bnd (pX x20 2) fun x24=>
bnd (gDj 5000 x24) fun x25=>
gd (y15.length+[(gBo.mk x21.atom x23 x25)].length≤4294967296) (
uS a0 x1 x3 x5 x7 x8 b10 xs (y15++[(gBo.mk x21.atom x23 x25)]))
def gB9(a0:gB):Option (jZ × Bool):=
bnd (pX a0 1) fun x1=>
bnd (pX a0 2) fun x2=>
bnd (gAw x2) fun x3=>
bnd (pX a0 3) fun x4=>
bnd (gIv 5000 x4) fun x5=>
bnd (pX a0 4) fun x6=>
bnd (gGq x6) fun x7=>
bnd (pX a0 5) fun x8=>
bnd (pX a0 6) fun x9=>
bnd ((cnd (decide ((x9.list.length:Int) > 0)) (
bnd (at? x9.list 0) fun x12=>
bnd (gIv 5000 x12) fun x13=>
(some (true,x13.kind,x13.name,x13.args))) (
(some (false,0,[],[]))))) fun b10=>
bnd (gGa a0 7) fun x14=>
uS a0 x1 x3 x5 x7 x8 b10 x14 []
theorem gJq(a0:gB){r:jZ × Bool}(h:gB9 a0=some r):jB Tryz.prog 98 [.d (mF a0)] [gCl r.1,.b r.2]:=by
 obtain⟨a0_0,a0_1⟩:=a0
 unfold gB9 at h
 refine SpI Tryz.func98 fun A _=>?_
 refine gHk ?_
 refine jL (P:=Tryz.prog) Mix.h [(0,true),(1,true),(2,true),(3,true),(4,true),(5,true),(6,true),(7,true),(8,true),(9,true),(10,true),(11,true),(12,true),(13,true),(14,true),(15,true),(16,true),(17,true),(18,false),(19,false)] (by kernel_rfl) ?_
 refine goY ?_
 obtain⟨⟨x1_0,x1_1⟩,hx1,h⟩:=gK h
 refine jC rfl (gF (qH (gB.mk a0_0 a0_1) 1 hx1)) ?_
 refine jC rfl (gFv) ?_
 refine goY ?_
 obtain⟨⟨x2_0,x2_1⟩,hx2,h⟩:=gK h
 refine jC rfl (gF (qH (gB.mk a0_0 a0_1) 2 hx2)) ?_
 obtain⟨x3,hx3,h⟩:=gK h
 refine jC rfl (gF (gCt (gB.mk x2_0 x2_1) hx3)) ?_
 refine goY ?_
 obtain⟨⟨x4_0,x4_1⟩,hx4,h⟩:=gK h
 refine jC rfl (gF (qH (gB.mk a0_0 a0_1) 3 hx4)) ?_
 obtain⟨⟨x5_0,x5_1,x5_2⟩,hx5,h⟩:=gK h
 refine jC rfl (gF (gK5 5000 (gB.mk x4_0 x4_1) hx5)) ?_
 refine goY ?_
 obtain⟨⟨x6_0,x6_1⟩,hx6,h⟩:=gK h
 refine jC rfl (gF (qH (gB.mk a0_0 a0_1) 4 hx6)) ?_
 obtain⟨x7,hx7,h⟩:=gK h
 refine jC rfl (gF (gL6 (gB.mk x6_0 x6_1) hx7)) ?_
 refine goY ?_
 obtain⟨⟨x8_0,x8_1⟩,hx8,h⟩:=gK h
 refine jC rfl (gF (qH (gB.mk a0_0 a0_1) 5 hx8)) ?_
 refine jC rfl (gFv) ?_
 refine goY ?_
 refine kS ?_
 refine goL ?_
 obtain⟨⟨x9_0,x9_1⟩,hx9,h⟩:=gK h
 refine jI (gF (qH (gB.mk a0_0 a0_1) 6 hx9)) ?_
 refine gQ6 3 2 10 rfl rfl (by repeat constructor) (by repeat constructor) ?_
 obtain⟨⟨b10_0,b10_1,b10_2,b10_3⟩,hb10,h⟩:=gK h
 refine gD4 ⟨[(1,.ptr 0 0),(2,.ptr 1 0),(4,.ptr 2 0)],[.box [.S a0_0,.L 2 (gM a0_1)],.box [.S [],.nilsl,.I 0,.S [],.nilsl,.nilsl,.B false,.B false,.I 0,.S [],.nilsl,.nilsl],.box [.S x1_0,.L 1 (gZ x3),.I x5_0,.S x5_1,.L 3 (gJ x5_2),.L 4 (jT x7),.d (.b (decide ((x8_1.length:Int) > 0))),.B b10_0,.I b10_1,.S b10_2,.L 3 (gJ b10_3),.nilsl],.box [.S x9_0,.L 2 (gM x9_1)]],Tryz.f98.ntmps⟩ ?_ ?_
 ·refine mO (fun c11=>?_) (fun c11=>?_)
  ·replace hb10:=gX c11 hb10
   refine goL ?_
   obtain⟨x12,hx12,hb10⟩:=gK hb10
   obtain⟨hx120,hx12⟩:=gD6 hx12
   obtain⟨x12_0,x12_1⟩:=x12
   refine jI (qU hx120 (qO hx12)) ?_
   obtain⟨⟨x13_0,x13_1,x13_2⟩,hx13,hb10⟩:=gK hb10
   refine jI (gF (gK5 5000 (gB.mk x12_0 x12_1) hx13)) ?_
   cases hb10
   exact eJ
  ·replace hb10:=gY c11 hb10
   refine gAi ?_
   cases hb10
   exact eJ
 refine goL ?_
 obtain⟨x14,hx14,h⟩:=gK h
 refine jI (gF (gJw (gB.mk a0_0 a0_1) 7 hx14)) ?_
 refine noB ?_
 refine yJ 203 11 2 11 rfl rfl (by repeat constructor) (by repeat constructor) (by repeat constructor) (by repeat constructor) ?_
 show V _ _ _ _ _
 refine gFj 6 (fun z18=>?_)
 refine kR (fun(y17:Nat) (y15:List gBo) (v16:Nat)=>⟨[(1,.ptr 0 0),(2,.ptr 1 0),(4,.ptr 2 0),(6,.L 2 (gM x14)),(7,.N y17)],[.box [.S a0_0,.L 2 (gM a0_1)],.box [.S [],.nilsl,.I 0,.S [],.nilsl,.nilsl,.B false,.B false,.I 0,.S [],.nilsl,.nilsl],.box [.S x1_0,.L 1 (gZ x3),.I x5_0,.S x5_1,.L 3 (gJ x5_2),.L 4 (jT x7),.d (.b (decide ((x8_1.length:Int) > 0))),.B b10_0,.I b10_1,.S b10_2,.L 3 (gJ b10_3),.sl 4 v16],.box [.S x9_0,.L 2 (gM x9_1)],.arr 203 11 v16 (mW y15)],Tryz.f98.ntmps⟩) (fun y17 y15 v16=>uS (gB.mk a0_0 a0_1) (gB.mk x1_0 x1_1) x3 (gD.mk x5_0 x5_1 x5_2) x7 (gB.mk x8_0 x8_1) (b10_0,b10_1,b10_2,b10_3) (x14.drop y17) y15=some r) (fun y17 y15 v16=>x14.length - y17) 0 [] 0 eJ h ?_
 rintro y17 y15 v16 h
 refine goL ?_
 refine mO (fun c19=>?_) (fun c19=>?_)
 ·have hky172:=wE c19
  obtain⟨x20,hx20,hdx20⟩:=drop_at hky172
  rw [hdx20,uS.eq_2] at h
  obtain⟨x20_0,x20_1⟩:=x20
  refine noS ?_
  refine kI (jE ?_)
  refine uX (P:=Tryz.prog) Mix.h [(0,true),(1,true),(2,true),(3,true),(4,true),(5,true),(6,true),(7,true),(8,true),(9,true),(10,true),(11,true),(12,true),(13,true),(14,true),(15,true),(16,true),(17,true),(18,true),(19,true),(20,true),(21,false),(22,false),(23,true),(24,false)] (by kernel_rfl) ?_
  refine goY ?_
  refine jC rfl (jJ y17 (qO hx20)) ?_
  refine goY ?_
  obtain⟨⟨x21_0,x21_1⟩,hx21,h⟩:=gK h
  refine jC rfl (gF (qH (gB.mk x20_0 x20_1) 0 hx21)) ?_
  refine jC rfl (gFv) ?_
  refine goY ?_
  refine jC rfl (jJ y17 (qO hx20)) ?_
  refine goY ?_
  obtain⟨⟨x22_0,x22_1⟩,hx22,h⟩:=gK h
  refine jC rfl (gF (qH (gB.mk x20_0 x20_1) 1 hx22)) ?_
  obtain⟨x23,hx23,h⟩:=gK h
  refine jC rfl (gF (gCt (gB.mk x22_0 x22_1) hx23)) ?_
  refine goY ?_
  refine jC rfl (jJ y17 (qO hx20)) ?_
  refine goY ?_
  obtain⟨⟨x24_0,x24_1⟩,hx24,h⟩:=gK h
  refine jC rfl (gF (qH (gB.mk x20_0 x20_1) 2 hx24)) ?_
  obtain⟨⟨x25_0,x25_1,x25_2,x25_3,⟨x25_4_0,x25_4_1,x25_4_2⟩,x25_5,x25_6⟩,hx25,h⟩:=gK h
  refine jC rfl (gF (gMj 5000 (gB.mk x24_0 x24_1) hx25)) ?_
  refine goY ?_
  refine pY (T:=159) (us:=mW [(gBo.mk x21_0 x23 (jM.mk x25_0 x25_1 x25_2 x25_3 (gD.mk x25_4_0 x25_4_1 x25_4_2) x25_5 x25_6))]) ?_
  obtain⟨g26,h⟩:=mZ h
  refine pV (T:=159) g26 ?_
  refine goY ?_
  refine kS ?_
  refine goL ?_
  refine jI (jS y17 (by omega)) ?_
  exact⟨(y17+1),(y15++[(gBo.mk x21_0 x23 (jM.mk x25_0 x25_1 x25_2 x25_3 (gD.mk x25_4_0 x25_4_1 x25_4_2) x25_5 x25_6))]),(v16+1),h,by omega,eJ⟩
 ·have hky172:=wF c19
  rw [jF hky172,uS.eq_1] at h
  refine noX ?_
  refine gHk ?_
  refine kK 4 rfl rfl ?_
  obtain⟨b27,hb27,h⟩:=gK h
  refine qZ (P:=Tryz.prog) Mix.h ⟨[(2,.ptr 1 0),(4,.ptr 2 0),(86,.B b27)],[.box [.S a0_0,.L 2 (gM a0_1)],.box [.S [],.nilsl,.I 0,.S [],.nilsl,.nilsl,.B false,.B false,.I 0,.S [],.nilsl,.nilsl],.box [.S x1_0,.L 1 (gZ x3),.I x5_0,.S x5_1,.L 3 (gJ x5_2),.L 4 (jT x7),.d (.b (decide ((x8_1.length:Int) > 0))),.B b10_0,.I b10_1,.S b10_2,.L 3 (gJ b10_3),.sl 4 v16],.box [.S x9_0,.L 2 (gM x9_1)],.frz 203 11 v16 (mW y15)],Tryz.f98.ntmps⟩ (by kernel_rfl) ?_ ?_
  ·refine goL ?_
   obtain⟨x28,hx28,hb27⟩:=gK hb27
   refine gDm (gF (wG (gB.mk a0_0 a0_1) hx28)) ?_
   refine goL ?_
   refine vR 74 (fun c29=>?_) (fun c29=>?_)
   ·replace hb27:=gX c29 hb27
    refine goL ?_
    cases hb27
    exact eJ
   ·replace hb27:=gY c29 hb27
    refine goL ?_
    refine vR 80 (fun c30=>?_) (fun c30=>?_)
    ·replace hb27:=gX c30 hb27
     refine goL ?_
     cases hb27
     exact eJ
    ·replace hb27:=gY c30 hb27
     refine goL ?_
     obtain⟨⟨x31_0,x31_1⟩,hx31,hb27⟩:=gK hb27
     refine hAu (gXe (gJo (jZ.mk x1_0 x3 (gD.mk x5_0 x5_1 x5_2) x7 (decide ((x8_1.length:Int) > 0)) b10_0 (gD.mk b10_1 b10_2 b10_3) y15) hx31)) ?_
     refine goL ?_
     obtain⟨x32,hx32,hb27⟩:=gK hb27
     refine gBe (gF (gEa 5000 (gB.mk x31_0 x31_1) (gB.mk a0_0 a0_1) hx32)) ?_
     refine goL ?_
     cases hb27
     exact eJ
  refine goC h ?_ ?_<;>intro c33 h
  ·refine goL ?_
   refine gA6 (kD TBd.h TZ.h rfl (by repeat constructor)) ?_
   exact goR h
  ·refine goS ?_
   refine jN ?_
   cases h
   exact qK
def uT(a0:gB)(x1:gB)(x3:List (List UInt8))(x5:List jD)(x7:gD)(x9:jM):List gB→(List gE8)→Option (mD × Bool)
 | [],y11=>bnd (bnd (pW a0) fun x22=>
(cnd (!x22) ((some true)) ((cnd ((a0.list.length:Int)==0) ((some true)) (bnd (gB8 (mD.mk x1.atom x3 x5 y11 x7 x9)) fun x25=>
bnd (gAt 5000 x25 a0) fun x26=>
(some (!x26))))))) fun b21=>
(cnd b21 (
(some ((mD.mk [] [] [] [] (gD.mk 0 [] []) (jM.mk 0 [] [] 0 (gD.mk 0 [] []) [] [])),false))) (
(some ((mD.mk x1.atom x3 x5 y11 x7 x9),true))))
 | x16::xs,y11=>bnd (pX x16 0) fun x17=>
bnd (pX x16 1) fun x18=>
bnd (gIv 5000 x18) fun x19=>
gd (y11.length+[(gE8.mk x17.atom x19)].length≤4294967296) (
uT a0 x1 x3 x5 x7 x9 xs (y11++[(gE8.mk x17.atom x19)]))
def gCa(a0:gB):Option (mD × Bool):=
bnd (pX a0 1) fun x1=>
bnd (pX a0 2) fun x2=>
bnd (gAw x2) fun x3=>
bnd (pX a0 3) fun x4=>
bnd (gGq x4) fun x5=>
bnd (pX a0 5) fun x6=>
bnd (gIv 5000 x6) fun x7=>
bnd (pX a0 6) fun x8=>
bnd (gDj 5000 x8) fun x9=>
bnd (pX a0 4) fun x10=>
uT a0 x1 x3 x5 x7 x9 x10.list []
theorem gJr(a0:gB){r:mD × Bool}(h:gCa a0=some r):jB Tryz.prog 99 [.d (mF a0)] [gDp r.1,.b r.2]:=by
 obtain⟨a0_0,a0_1⟩:=a0
 unfold gCa at h
 refine SpI Tryz.func99 fun A _=>?_
 refine gHk ?_
 refine jL (P:=Tryz.prog) Mix.h [(0,true),(1,true),(2,true),(3,true),(4,true),(5,true),(6,true),(7,true),(8,true),(9,true),(10,true),(11,true),(12,true),(13,true),(14,true),(15,true),(16,false),(17,false)] (by kernel_rfl) ?_
 refine goY ?_
 obtain⟨⟨x1_0,x1_1⟩,hx1,h⟩:=gK h
 refine jC rfl (gF (qH (gB.mk a0_0 a0_1) 1 hx1)) ?_
 refine jC rfl (gFv) ?_
 refine goY ?_
 obtain⟨⟨x2_0,x2_1⟩,hx2,h⟩:=gK h
 refine jC rfl (gF (qH (gB.mk a0_0 a0_1) 2 hx2)) ?_
 obtain⟨x3,hx3,h⟩:=gK h
 refine jC rfl (gF (gCt (gB.mk x2_0 x2_1) hx3)) ?_
 refine goY ?_
 obtain⟨⟨x4_0,x4_1⟩,hx4,h⟩:=gK h
 refine jC rfl (gF (qH (gB.mk a0_0 a0_1) 3 hx4)) ?_
 obtain⟨x5,hx5,h⟩:=gK h
 refine jC rfl (gF (gL6 (gB.mk x4_0 x4_1) hx5)) ?_
 refine goY ?_
 obtain⟨⟨x6_0,x6_1⟩,hx6,h⟩:=gK h
 refine jC rfl (gF (qH (gB.mk a0_0 a0_1) 5 hx6)) ?_
 obtain⟨⟨x7_0,x7_1,x7_2⟩,hx7,h⟩:=gK h
 refine jC rfl (gF (gK5 5000 (gB.mk x6_0 x6_1) hx7)) ?_
 refine goY ?_
 obtain⟨⟨x8_0,x8_1⟩,hx8,h⟩:=gK h
 refine jC rfl (gF (qH (gB.mk a0_0 a0_1) 6 hx8)) ?_
 obtain⟨⟨x9_0,x9_1,x9_2,x9_3,⟨x9_4_0,x9_4_1,x9_4_2⟩,x9_5,x9_6⟩,hx9,h⟩:=gK h
 refine jC rfl (gF (gMj 5000 (gB.mk x8_0 x8_1) hx9)) ?_
 refine goY ?_
 refine kS ?_
 refine goL ?_
 obtain⟨⟨x10_0,x10_1⟩,hx10,h⟩:=gK h
 refine jI (gF (qH (gB.mk a0_0 a0_1) 4 hx10)) ?_
 refine noB ?_
 refine yJ 206 4 2 3 rfl rfl (by repeat constructor) (by repeat constructor) (by repeat constructor) (by repeat constructor) ?_
 show V _ _ _ _ _
 refine vN 3 1 (fun z14=>?_)
 refine kR (fun(y13:Nat) (y11:List gE8) (v12:Nat)=>⟨[(1,.ptr 0 0),(2,.ptr 1 0),(4,.ptr 2 0),(5,.ptr 3 0),(6,.N y13)],[.box [.S a0_0,.L 2 (gM a0_1)],.box [.S [],.nilsl,.nilsl,.nilsl,.I 0,.S [],.nilsl,.I 0,.S [],.S [],.I 0,.I 0,.S [],.nilsl,.nilsl,.nilsl],.box [.S x1_0,.L 1 (gZ x3),.L 4 (jT x5),.sl 4 v12,.I x7_0,.S x7_1,.L 3 (gJ x7_2),.I x9_0,.S x9_1,.S x9_2,.I x9_3,.I x9_4_0,.S x9_4_1,.L 3 (gJ x9_4_2),.L 9 (kP x9_5),.L 11 (qD x9_6)],.box [.S x10_0,.L 2 (gM x10_1)],.arr 206 4 v12 (gE9 y11)],Tryz.f99.ntmps⟩) (fun y13 y11 v12=>uT (gB.mk a0_0 a0_1) (gB.mk x1_0 x1_1) x3 x5 (gD.mk x7_0 x7_1 x7_2) (jM.mk x9_0 x9_1 x9_2 x9_3 (gD.mk x9_4_0 x9_4_1 x9_4_2) x9_5 x9_6) (x10_1.drop y13) y11=some r) (fun y13 y11 v12=>x10_1.length - y13) 0 [] 0 eJ h ?_
 rintro y13 y11 v12 h
 refine goL ?_
 refine mO (fun c15=>?_) (fun c15=>?_)
 ·have hky132:=wE c15
  obtain⟨x16,hx16,hdx16⟩:=drop_at hky132
  rw [hdx16,uT.eq_2] at h
  obtain⟨x16_0,x16_1⟩:=x16
  refine noS ?_
  refine kI (jE ?_)
  refine uX (P:=Tryz.prog) Mix.h [(0,true),(1,true),(2,true),(3,true),(4,true),(5,true),(6,true),(7,true),(8,true),(9,true),(10,true),(11,true),(12,true),(13,true),(14,true),(15,true),(16,true),(17,false),(18,false),(19,true),(20,false)] (by kernel_rfl) ?_
  refine goY ?_
  refine jC rfl (jJ y13 (qO hx16)) ?_
  refine goY ?_
  obtain⟨⟨x17_0,x17_1⟩,hx17,h⟩:=gK h
  refine jC rfl (gF (qH (gB.mk x16_0 x16_1) 0 hx17)) ?_
  refine jC rfl (gFv) ?_
  refine goY ?_
  refine jC rfl (jJ y13 (qO hx16)) ?_
  refine goY ?_
  obtain⟨⟨x18_0,x18_1⟩,hx18,h⟩:=gK h
  refine jC rfl (gF (qH (gB.mk x16_0 x16_1) 1 hx18)) ?_
  obtain⟨⟨x19_0,x19_1,x19_2⟩,hx19,h⟩:=gK h
  refine jC rfl (gF (gK5 5000 (gB.mk x18_0 x18_1) hx19)) ?_
  refine goY ?_
  refine pY (T:=164) (us:=gE9 [(gE8.mk x17_0 (gD.mk x19_0 x19_1 x19_2))]) ?_
  obtain⟨g20,h⟩:=mZ h
  refine pV (T:=164) g20 ?_
  refine goY ?_
  refine kS ?_
  refine goL ?_
  refine jI (jS y13 (by omega)) ?_
  exact⟨(y13+1),(y11++[(gE8.mk x17_0 (gD.mk x19_0 x19_1 x19_2))]),(v12+1),h,by omega,eJ⟩
 ·have hky132:=wF c15
  rw [jF hky132,uT.eq_1] at h
  refine noX ?_
  refine gHk ?_
  refine kK 4 rfl rfl ?_
  obtain⟨b21,hb21,h⟩:=gK h
  refine qZ (P:=Tryz.prog) Mix.h ⟨[(2,.ptr 1 0),(4,.ptr 2 0),(67,.B b21)],[.box [.S a0_0,.L 2 (gM a0_1)],.box [.S [],.nilsl,.nilsl,.nilsl,.I 0,.S [],.nilsl,.I 0,.S [],.S [],.I 0,.I 0,.S [],.nilsl,.nilsl,.nilsl],.box [.S x1_0,.L 1 (gZ x3),.L 4 (jT x5),.sl 4 v12,.I x7_0,.S x7_1,.L 3 (gJ x7_2),.I x9_0,.S x9_1,.S x9_2,.I x9_3,.I x9_4_0,.S x9_4_1,.L 3 (gJ x9_4_2),.L 9 (kP x9_5),.L 11 (qD x9_6)],.box [.S x10_0,.L 2 (gM x10_1)],.frz 206 4 v12 (gE9 y11)],Tryz.f99.ntmps⟩ (by kernel_rfl) ?_ ?_
  ·refine goL ?_
   obtain⟨x22,hx22,hb21⟩:=gK hb21
   refine gDm (gF (wG (gB.mk a0_0 a0_1) hx22)) ?_
   refine goL ?_
   refine vR 55 (fun c23=>?_) (fun c23=>?_)
   ·replace hb21:=gX c23 hb21
    refine goL ?_
    cases hb21
    exact eJ
   ·replace hb21:=gY c23 hb21
    refine goL ?_
    refine vR 61 (fun c24=>?_) (fun c24=>?_)
    ·replace hb21:=gX c24 hb21
     refine goL ?_
     cases hb21
     exact eJ
    ·replace hb21:=gY c24 hb21
     refine goL ?_
     obtain⟨⟨x25_0,x25_1⟩,hx25,hb21⟩:=gK hb21
     refine hAu (gXe (gJp (mD.mk x1_0 x3 x5 y11 (gD.mk x7_0 x7_1 x7_2) (jM.mk x9_0 x9_1 x9_2 x9_3 (gD.mk x9_4_0 x9_4_1 x9_4_2) x9_5 x9_6)) hx25)) ?_
     refine goL ?_
     obtain⟨x26,hx26,hb21⟩:=gK hb21
     refine gBe (gF (gEa 5000 (gB.mk x25_0 x25_1) (gB.mk a0_0 a0_1) hx26)) ?_
     refine goL ?_
     cases hb21
     exact eJ
  refine goC h ?_ ?_<;>intro c27 h
  ·refine goL ?_
   refine gA6 (kD TBd.h TZ.h rfl (by repeat constructor)) ?_
   exact goR h
  ·refine goS ?_
   refine jN ?_
   cases h
   exact qK
end Go.Proofs.YtfaplndgbgoaaaaGreatDoor
set_option maxHeartbeats 4000000
set_option linter.unusedVariables false
set_option linter.unusedSimpArgs false
set_option linter.unusedSectionVars false
namespace Go.Proofs.YtfaplndgbgoaaaaGreatDoor
open Go Go.Eng
attribute [local irreducible] V VO VQ VY Quiet QR jB kX Rng uJ uY qW
def gCb:List mD→Option (Bool)
 | []=>(some true)
 | x22::xs=>bnd (zZ x22) fun x23=>
(cnd (!x23) (
(some false)) (
gCb xs ))
def gCc(a0:jX):List jZ→Option (Bool)
 | []=>gCb a0.functions
 | x16::xs=>bnd (zY x16) fun x17=>
(cnd (!x17) (
(some false)) (
gCc a0 xs ))
def gCd(a0:jX):List kY→Option (Bool)
 | []=>gCc a0 a0.instances
 | x10::xs=>bnd (zX x10) fun x11=>
(cnd (!x11) (
(some false)) (
gCd a0 xs ))
def gCe(a0:jX):List qV→Option (Bool)
 | []=>gCd a0 a0.dataTypes
 | x4::xs=>bnd (gB5 x4) fun x5=>
(cnd (!x5) (
(some false)) (
gCe a0 xs ))
def gKh(a0:jX):Option (Bool):=
gCe a0 a0.traits
theorem gU4(a0:jX){r:Bool}(h:gKh a0=some r):jB Tryz.prog 105 [.d (gC6 a0)] [.b r]:=by
 obtain⟨a0_0,a0_1,a0_2,a0_3,a0_4,a0_5⟩:=a0
 unfold gKh at h
 refine SpI Tryz.func105 fun A _=>?_
 refine goL ?_
 refine noB ?_
 refine vN 0 2 (fun z2=>?_)
 refine pJ (fun(y1:Nat)=>⟨[(1,.ptr 0 0),(3,.N y1)],[.box [.S a0_0,.L 1 (gZ a0_1),.L 5 (uC a0_2),.L 3 (mI a0_3),.L 12 (mJ a0_4),.L 16 (mK a0_5)]],Tryz.f105.ntmps⟩) (fun y1=>gCe (jX.mk a0_0 a0_1 a0_2 a0_3 a0_4 a0_5) (a0_2.drop y1)  =some r) (fun y1=>a0_2.length - y1) 0 eJ h ?_
 rintro y1 h
 refine goL ?_
 refine mO (fun c3=>?_) (fun c3=>?_)
 ·have hky12:=wE c3
  obtain⟨x4,hx4,hdx4⟩:=drop_at hky12
  rw [hdx4,gCe.eq_2] at h
  obtain⟨x4_0,x4_1,x4_2,x4_3,x4_4⟩:=x4
  refine noS ?_
  refine kI (jE ?_)
  refine goL ?_
  refine jI (jJ y1 (gTu hx4)) ?_
  obtain⟨x5,hx5,h⟩:=gK h
  refine jI (gF (gHn (qV.mk x4_0 x4_1 x4_2 x4_3 x4_4) hx5)) ?_
  refine mO (fun c6=>?_) (fun c6=>?_)
  ·replace h:=gX c6 h
   exact goR h
  ·replace h:=gY c6 h
   refine goS ?_
   refine jI (jS y1 (by omega)) ?_
   exact⟨(y1+1),h,by omega,eJ⟩
 ·have hky12:=wF c3
  rw [jF hky12,gCe.eq_1] at h
  refine goX ?_
  refine noB ?_
  refine vN 0 3 (fun z8=>?_)
  refine pJ (fun(y7:Nat)=>⟨[(1,.ptr 0 0),(4,.N y7)],[.box [.S a0_0,.L 1 (gZ a0_1),.L 5 (uC a0_2),.L 3 (mI a0_3),.L 12 (mJ a0_4),.L 16 (mK a0_5)]],Tryz.f105.ntmps⟩) (fun y7=>gCd (jX.mk a0_0 a0_1 a0_2 a0_3 a0_4 a0_5) (a0_3.drop y7)  =some r) (fun y7=>a0_3.length - y7) 0 eJ h ?_
  rintro y7 h
  refine goL ?_
  refine mO (fun c9=>?_) (fun c9=>?_)
  ·have hky72:=wE c9
   obtain⟨x10,hx10,hdx10⟩:=drop_at hky72
   rw [hdx10,gCd.eq_2] at h
   obtain⟨x10_0,x10_1,x10_2⟩:=x10
   refine noS ?_
   refine kI (jE ?_)
   refine goL ?_
   refine jI (jJ y7 (gJ4 hx10)) ?_
   obtain⟨x11,hx11,h⟩:=gK h
   refine jI (gF (gFo (kY.mk x10_0 x10_1 x10_2) hx11)) ?_
   refine mO (fun c12=>?_) (fun c12=>?_)
   ·replace h:=gX c12 h
    exact goR h
   ·replace h:=gY c12 h
    refine goS ?_
    refine jI (jS y7 (by omega)) ?_
    exact⟨(y7+1),h,by omega,eJ⟩
  ·have hky72:=wF c9
   rw [jF hky72,gCd.eq_1] at h
   refine goX ?_
   refine noB ?_
   refine vN 0 4 (fun z14=>?_)
   refine pJ (fun(y13:Nat)=>⟨[(1,.ptr 0 0),(5,.N y13)],[.box [.S a0_0,.L 1 (gZ a0_1),.L 5 (uC a0_2),.L 3 (mI a0_3),.L 12 (mJ a0_4),.L 16 (mK a0_5)]],Tryz.f105.ntmps⟩) (fun y13=>gCc (jX.mk a0_0 a0_1 a0_2 a0_3 a0_4 a0_5) (a0_4.drop y13)  =some r) (fun y13=>a0_4.length - y13) 0 eJ h ?_
   rintro y13 h
   refine goL ?_
   refine mO (fun c15=>?_) (fun c15=>?_)
   ·have hky132:=wE c15
    obtain⟨x16,hx16,hdx16⟩:=drop_at hky132
    rw [hdx16,gCc.eq_2] at h
    obtain⟨x16_0,x16_1,⟨x16_2_0,x16_2_1,x16_2_2⟩,x16_3,x16_4,x16_5,⟨x16_6_0,x16_6_1,x16_6_2⟩,x16_7⟩:=x16
    refine noS ?_
    refine kI (jE ?_)
    refine goL ?_
    refine jI (jJ y13 (gGf hx16)) ?_
    obtain⟨x17,hx17,h⟩:=gK h
    refine jI (gF (gFq (jZ.mk x16_0 x16_1 (gD.mk x16_2_0 x16_2_1 x16_2_2) x16_3 x16_4 x16_5 (gD.mk x16_6_0 x16_6_1 x16_6_2) x16_7) hx17)) ?_
    refine mO (fun c18=>?_) (fun c18=>?_)
    ·replace h:=gX c18 h
     exact goR h
    ·replace h:=gY c18 h
     refine goS ?_
     refine jI (jS y13 (by omega)) ?_
     exact⟨(y13+1),h,by omega,eJ⟩
   ·have hky132:=wF c15
    rw [jF hky132,gCc.eq_1] at h
    refine goX ?_
    refine noB ?_
    refine vN 0 5 (fun z20=>?_)
    refine pJ (fun(y19:Nat)=>⟨[(1,.ptr 0 0),(6,.N y19)],[.box [.S a0_0,.L 1 (gZ a0_1),.L 5 (uC a0_2),.L 3 (mI a0_3),.L 12 (mJ a0_4),.L 16 (mK a0_5)]],Tryz.f105.ntmps⟩) (fun y19=>gCb (a0_5.drop y19)  =some r) (fun y19=>a0_5.length - y19) 0 eJ h ?_
    rintro y19 h
    refine goL ?_
    refine mO (fun c21=>?_) (fun c21=>?_)
    ·have hky192:=wE c21
     obtain⟨x22,hx22,hdx22⟩:=drop_at hky192
     rw [hdx22,gCb.eq_2] at h
     obtain⟨x22_0,x22_1,x22_2,x22_3,⟨x22_4_0,x22_4_1,x22_4_2⟩,⟨x22_5_0,x22_5_1,x22_5_2,x22_5_3,⟨x22_5_4_0,x22_5_4_1,x22_5_4_2⟩,x22_5_5,x22_5_6⟩⟩:=x22
     refine noS ?_
     refine kI (jE ?_)
     refine goL ?_
     refine jI (jJ y19 (gQv hx22)) ?_
     obtain⟨x23,hx23,h⟩:=gK h
     refine jI (gF (gFr (mD.mk x22_0 x22_1 x22_2 x22_3 (gD.mk x22_4_0 x22_4_1 x22_4_2) (jM.mk x22_5_0 x22_5_1 x22_5_2 x22_5_3 (gD.mk x22_5_4_0 x22_5_4_1 x22_5_4_2) x22_5_5 x22_5_6)) hx23)) ?_
     refine mO (fun c24=>?_) (fun c24=>?_)
     ·replace h:=gX c24 h
      exact goR h
     ·replace h:=gY c24 h
      refine goS ?_
      refine jI (jS y19 (by omega)) ?_
      exact⟨(y19+1),h,by omega,eJ⟩
    ·have hky192:=wF c21
     rw [jF hky192,gCb.eq_1] at h
     refine goX ?_
     refine jN ?_
     cases h
     exact qK
end Go.Proofs.YtfaplndgbgoaaaaGreatDoor
