import Derived.Test.YtfaplndgbgoaaaaGreatDoorEng38
import Derived.Test.YtfaplndgbgoaaaaGreatDoorEng67
import Derived.Test.YtfaplndgbgoaaaaGreatDoorVr
import Derived.Test.YtfaplndgbgoaaaaGreatDoorB14
import Derived.Test.YtfaplndgbgoaaaaGreatDoorB12
import Derived.Test.YtfaplndgbgoaaaaGreatDoorB15
import Derived.Test.YtfaplndgbgoaaaaGreatDoorB3
import Derived.Test.YtfaplndgbgoaaaaGreatDoorB6
set_option maxHeartbeats 4000000
set_option linter.unusedVariables false
set_option linter.unusedSimpArgs false
set_option linter.unusedSectionVars false
namespace Go.Proofs.YtfaplndgbgoaaaaGreatDoor
open Go Go.Eng
attribute [local irreducible] V VO VQ VY Quiet QR jB kX Rng uJ uY qW
def uQ(x17:gB):List gBo→(List gB)→Option (gB)
 | [],y18=>bnd (gKg true (gB.mk x17.atom y18)) fun x29=>
(some x29)
 | x23::xs,y18=>lt_ (kV x23.name) fun x24=>
bnd (zR x23.vars) fun x25=>
bnd (gI4 5000 x23.body) fun x26=>
bnd (gF1 [x24,x25,x26]) fun x27=>
gd (y18.length+[x27].length≤4294967296) (
uQ x17 xs (y18++[x27]))
def gB7(a0:jZ):Option (gB):=
bnd (zY a0) fun x1=>
(cnd (!x1) (
(some (gB.mk [] []))) (
bnd ((cnd a0.default_ (
gd (([]:List (List UInt8)).length+([[100,101,102,97,117,108,116]]:List (List UInt8)).length≤4294967296) (
(some ([]++[[100,101,102,97,117,108,116]])))) (
(some [])))) fun b3=>
bnd ((cnd a0.hasAssoc (
bnd (gIw 5000 a0.assoc) fun x9=>
bnd (gF1 [x9]) fun x10=>
(some (x10.atom,x10.list))) (
(some ([],[]))))) fun b7=>
lt_ (kV [105,110,115,116]) fun x11=>
lt_ (kV a0.trait) fun x12=>
bnd (zR a0.vars) fun x13=>
bnd (gIw 5000 a0.head) fun x14=>
bnd (gId a0.where_) fun x15=>
bnd (zR b3) fun x16=>
bnd (gGl [x11,x12,x13,x14,x15,x16,(gB.mk b7.1 b7.2)]) fun x17=>
uQ x17 a0.methods x17.list))
theorem gJo(a0:jZ){r:gB}(h:gB7 a0=some r):jB Tryz.prog 122 [.d (gCl a0)] [mF r]:=by
 obtain⟨a0_0,a0_1,⟨a0_2_0,a0_2_1,a0_2_2⟩,a0_3,a0_4,a0_5,⟨a0_6_0,a0_6_1,a0_6_2⟩,a0_7⟩:=a0
 unfold gB7 at h
 refine SpI Tryz.func122 fun A _=>?_
 refine goL ?_
 obtain⟨x1,hx1,h⟩:=gK h
 refine jI (gF (gFq (jZ.mk a0_0 a0_1 (gD.mk a0_2_0 a0_2_1 a0_2_2) a0_3 a0_4 a0_5 (gD.mk a0_6_0 a0_6_1 a0_6_2) a0_7) hx1)) ?_
 refine mO (fun c2=>?_) (fun c2=>?_)
 ·replace h:=gX c2 h
  refine goL ?_
  refine gA6 (kD TBd.h TZ.h rfl (by repeat constructor)) ?_
  exact goR h
 ·replace h:=gY c2 h
  refine goS ?_
  refine gFc ?_
  refine goL ?_
  obtain⟨b3,hb3,h⟩:=gK h
  refine gKs (fun v4=>⟨[(1,.ptr 0 0),(2,.ptr 1 0),(3,.sl 2 v4)],[.box [.S a0_0,.L 1 (gZ a0_1),.I a0_2_0,.S a0_2_1,.L 3 (gJ a0_2_2),.L 4 (jT a0_3),.B a0_4,.B a0_5,.I a0_6_0,.S a0_6_1,.L 3 (gJ a0_6_2),.L 11 (mW a0_7)],.box [.S [],.nilsl],.own 9 1 v4 (gZ b3)],Tryz.f122.ntmps⟩) ?_ (fun v4=>?_)
  ·refine mO (fun c5=>?_) (fun c5=>?_)
   ·replace hb3:=gX c5 hb3
    refine goL ?_
    refine gA7 ([100,101,102,97,117,108,116]:List UInt8) ?_
    obtain⟨g6,hb3⟩:=mZ hb3
    refine gGg g6 ?_
    refine goL ?_
    cases hb3
    exact⟨(0+1),eJ⟩
   ·replace hb3:=gY c5 hb3
    refine gAi ?_
    cases hb3
    exact⟨0,eJ⟩
  refine goL ?_
  refine gFl (kD TBd.h TZ.h rfl (by repeat constructor)) ?_
  refine gQ6 2 3 1 rfl rfl (by repeat constructor) (by repeat constructor) ?_
  obtain⟨⟨b7_0,b7_1⟩,hb7,h⟩:=gK h
  refine gD4 ⟨[(1,.ptr 0 0),(2,.ptr 1 0),(3,.sl 2 v4),(4,.ptr 3 0)],[.box [.S a0_0,.L 1 (gZ a0_1),.I a0_2_0,.S a0_2_1,.L 3 (gJ a0_2_2),.L 4 (jT a0_3),.B a0_4,.B a0_5,.I a0_6_0,.S a0_6_1,.L 3 (gJ a0_6_2),.L 11 (mW a0_7)],.box [.S [],.nilsl],.own 9 1 v4 (gZ b3),.box [.S b7_0,.L 2 (gM b7_1)]],Tryz.f122.ntmps⟩ ?_ ?_
  ·refine mO (fun c8=>?_) (fun c8=>?_)
   ·replace hb7:=gX c8 hb7
    refine goL ?_
    obtain⟨⟨x9_0,x9_1⟩,hx9,hb7⟩:=gK hb7
    refine qP (gF (gHd 5000 (gD.mk a0_6_0 a0_6_1 a0_6_2) hx9)) ?_
    refine gBc (u:=(.st [.s x9_0,.sl 2 (gM x9_1)])) ?_
    refine vO 4 rfl rfl ?_
    refine gX4 ?_
    obtain⟨⟨x10_0,x10_1⟩,hx10,hb7⟩:=gK hb7
    refine gFl (gXe (gIn [(gB.mk x9_0 x9_1)] hx10)) ?_
    cases hb7
    exact eJ
   ·replace hb7:=gY c8 hb7
    refine gAi ?_
    cases hb7
    exact eJ
  refine gHk ?_
  refine wL 2 rfl rfl ?_
  refine hKg ?_
  obtain⟨⟨x11_0,x11_1⟩,hx11,h⟩:=qR h
  have sx11:=mG [105,110,115,116]
  rw [hx11] at sx11
  obtain⟨⟨x12_0,x12_1⟩,hx12,h⟩:=qR h
  have sx12:=mG a0_0
  rw [hx12] at sx12
  obtain⟨⟨x13_0,x13_1⟩,hx13,h⟩:=gK h
  obtain⟨⟨x14_0,x14_1⟩,hx14,h⟩:=gK h
  obtain⟨⟨x15_0,x15_1⟩,hx15,h⟩:=gK h
  obtain⟨⟨x16_0,x16_1⟩,hx16,h⟩:=gK h
  obtain⟨⟨x17_0,x17_1⟩,hx17,h⟩:=gK h
  refine uZ (P:=Tryz.prog) Mix.h (.q 1 (.q 2 (.q 4 (.q 5 (.q 7 (.q 8 (.q 10 (.q 11 (.q 13 (.q 15 (.h 0 (.h 3 (.h 6 (.h 9 (.h 12 (.h 14 (.h 16 (.h 17 (.h 18 (.h 19 .nil .nil) .nil) (.h 18 (.h 17 (.h 19 .nil .nil) .nil) .nil)) (.h 18 (.h 16 (.h 17 (.h 19 .nil .nil) .nil) .nil) .nil)) (.h 18 (.h 14 (.h 16 (.h 17 (.h 19 .nil .nil) .nil) .nil) .nil) .nil)) (.h 18 (.h 12 (.h 14 (.h 16 (.h 17 (.h 19 .nil .nil) .nil) .nil) .nil) .nil) .nil)) (.h 18 (.h 9 (.h 12 (.h 14 (.h 16 (.h 17 (.h 19 .nil .nil) .nil) .nil) .nil) .nil) .nil) .nil)) (.h 18 (.h 6 (.h 9 (.h 12 (.h 14 (.h 16 (.h 17 (.h 19 .nil .nil) .nil) .nil) .nil) .nil) .nil) .nil) .nil)) (.h 18 (.h 3 (.h 6 (.h 9 (.h 12 (.h 14 (.h 16 (.h 17 (.h 19 .nil .nil) .nil) .nil) .nil) .nil) .nil) .nil) .nil) .nil)) (.h 18 (.h 0 (.h 3 (.h 6 (.h 9 (.h 12 (.h 14 (.h 16 (.h 17 (.h 19 .nil .nil) .nil) .nil) .nil) .nil) .nil) .nil) .nil) .nil) .nil)))))))))))) ⟨[(1,.ptr 0 0),(2,.ptr 1 0),(5,.ptr 6 0)],[.box [.S a0_0,.L 1 (gZ a0_1),.I a0_2_0,.S a0_2_1,.L 3 (gJ a0_2_2),.L 4 (jT a0_3),.B a0_4,.B a0_5,.I a0_6_0,.S a0_6_1,.L 3 (gJ a0_6_2),.L 11 (mW a0_7)],.box [.S [],.nilsl],.frz 9 1 v4 (gZ b3),.box [.S b7_0,.L 2 (gM b7_1)],.frz 107 2 0 (gM [(gB.mk x11_0 x11_1),(gB.mk x12_0 x12_1),(gB.mk x13_0 x13_1),(gB.mk x14_0 x14_1),(gB.mk x15_0 x15_1),(gB.mk x16_0 x16_1),(gB.mk b7_0 b7_1)]),.arr 107 2 0 (gM x17_1),.box [.S x17_0,.sl 5 0]],Tryz.f122.ntmps⟩ (by kernel_rfl) ?_ ?_
  ·refine goT ?_
   refine wQ (pG (sx11) jQ) ?_ ?_
   ·refine wQ (pG (sx12) jQ) ?_ ?_
    ·refine wQ (pG (qQ a0_1 hx13) jQ) ?_ ?_
     ·refine wQ (pG (gHd 5000 (gD.mk a0_2_0 a0_2_1 a0_2_2) hx14) jQ) ?_ ?_
      ·refine wQ (pG (gCq a0_3 hx15) jQ) ?_ ?_
       ·refine wQ (pG (qQ b3 hx16) jQ) ?_ ?_
        ·refine wQ (pY (T:=105) (us:=gM [(gB.mk x11_0 x11_1),(gB.mk x12_0 x12_1),(gB.mk x13_0 x13_1),(gB.mk x14_0 x14_1),(gB.mk x15_0 x15_1),(gB.mk x16_0 x16_1),(gB.mk b7_0 b7_1)]) jQ) ?_ ?_
         ·refine wQ (zO 4 rfl rfl (gBy (sv:=.ag [.S x17_0,.sl 5 0]) (L':=[.box [.S a0_0,.L 1 (gZ a0_1),.I a0_2_0,.S a0_2_1,.L 3 (gJ a0_2_2),.L 4 (jT a0_3),.B a0_4,.B a0_5,.I a0_6_0,.S a0_6_1,.L 3 (gJ a0_6_2),.L 11 (mW a0_7)],.box [.S [],.nilsl],.frz 9 1 v4 (gZ b3),.box [.S b7_0,.L 2 (gM b7_1)],.frz 107 2 0 (gM [(gB.mk x11_0 x11_1),(gB.mk x12_0 x12_1),(gB.mk x13_0 x13_1),(gB.mk x14_0 x14_1),(gB.mk x15_0 x15_1),(gB.mk x16_0 x16_1),(gB.mk b7_0 b7_1)]),.arr 107 2 0 (gM x17_1)]) [] (uF [(gB.mk x11_0 x11_1),(gB.mk x12_0 x12_1),(gB.mk x13_0 x13_1),(gB.mk x14_0 x14_1),(gB.mk x15_0 x15_1),(gB.mk x16_0 x16_1),(gB.mk b7_0 b7_1)] hx17) jQ)) ?_ ?_
          ·refine goT ?_
           refine jW ?_
           exact vG 0 [0,1,2,3,4,5,6]
          refine goT ?_
          refine jO (zO 4 rfl rfl (gBy (sv:=.ag [.S x17_0,.sl 6 0]) (L':=[.box [.S a0_0,.L 1 (gZ a0_1),.I a0_2_0,.S a0_2_1,.L 3 (gJ a0_2_2),.L 4 (jT a0_3),.B a0_4,.B a0_5,.I a0_6_0,.S a0_6_1,.L 3 (gJ a0_6_2),.L 11 (mW a0_7)],.box [.S [],.nilsl],.frz 9 1 v4 (gZ b3),.box [.S b7_0,.L 2 (gM b7_1)],.frz 107 2 0 (gM [(gB.mk x11_0 x11_1),(gB.mk x12_0 x12_1),(gB.mk x13_0 x13_1),(gB.mk x14_0 x14_1),(gB.mk x15_0 x15_1),(gB.mk x16_0 x16_1),(gB.mk b7_0 b7_1)]),.box [.S [],.nilsl],.arr 107 2 0 (gM x17_1)]) [] (uF [(gB.mk x11_0 x11_1),(gB.mk x12_0 x12_1),(gB.mk x13_0 x13_1),(gB.mk x14_0 x14_1),(gB.mk x15_0 x15_1),(gB.mk x16_0 x16_1),(gB.mk b7_0 b7_1)] hx17) jQ)) ?_
          refine goT ?_
          refine jW ?_
          exact vG 0 [0,1,2,3,4,6,5]
         refine goT ?_
         refine jO (pY (T:=105) (us:=gM [(gB.mk x11_0 x11_1),(gB.mk x12_0 x12_1),(gB.mk x13_0 x13_1),(gB.mk x14_0 x14_1),(gB.mk x15_0 x15_1),(gB.mk x16_0 x16_1),(gB.mk b7_0 b7_1)]) jQ) ?_
         refine jO (zO 5 rfl rfl (gBy (sv:=.ag [.S x17_0,.sl 6 0]) (L':=[.box [.S a0_0,.L 1 (gZ a0_1),.I a0_2_0,.S a0_2_1,.L 3 (gJ a0_2_2),.L 4 (jT a0_3),.B a0_4,.B a0_5,.I a0_6_0,.S a0_6_1,.L 3 (gJ a0_6_2),.L 11 (mW a0_7)],.box [.S [],.nilsl],.frz 9 1 v4 (gZ b3),.box [.S b7_0,.L 2 (gM b7_1)],.box [.S [],.nilsl],.frz 107 2 0 (gM [(gB.mk x11_0 x11_1),(gB.mk x12_0 x12_1),(gB.mk x13_0 x13_1),(gB.mk x14_0 x14_1),(gB.mk x15_0 x15_1),(gB.mk x16_0 x16_1),(gB.mk b7_0 b7_1)]),.arr 107 2 0 (gM x17_1)]) [] (uF [(gB.mk x11_0 x11_1),(gB.mk x12_0 x12_1),(gB.mk x13_0 x13_1),(gB.mk x14_0 x14_1),(gB.mk x15_0 x15_1),(gB.mk x16_0 x16_1),(gB.mk b7_0 b7_1)] hx17) jQ)) ?_
         refine goT ?_
         refine jW ?_
         exact vG 0 [0,1,2,3,5,6,4]
        refine goT ?_
        refine jO (pG (qQ b3 hx16) jQ) ?_
        refine jO (pY (T:=105) (us:=gM [(gB.mk x11_0 x11_1),(gB.mk x12_0 x12_1),(gB.mk x13_0 x13_1),(gB.mk x14_0 x14_1),(gB.mk x15_0 x15_1),(gB.mk x16_0 x16_1),(gB.mk b7_0 b7_1)]) jQ) ?_
        refine jO (zO 5 rfl rfl (gBy (sv:=.ag [.S x17_0,.sl 6 0]) (L':=[.box [.S a0_0,.L 1 (gZ a0_1),.I a0_2_0,.S a0_2_1,.L 3 (gJ a0_2_2),.L 4 (jT a0_3),.B a0_4,.B a0_5,.I a0_6_0,.S a0_6_1,.L 3 (gJ a0_6_2),.L 11 (mW a0_7)],.box [.S [],.nilsl],.frz 9 1 v4 (gZ b3),.box [.S b7_0,.L 2 (gM b7_1)],.box [.S [],.nilsl],.frz 107 2 0 (gM [(gB.mk x11_0 x11_1),(gB.mk x12_0 x12_1),(gB.mk x13_0 x13_1),(gB.mk x14_0 x14_1),(gB.mk x15_0 x15_1),(gB.mk x16_0 x16_1),(gB.mk b7_0 b7_1)]),.arr 107 2 0 (gM x17_1)]) [] (uF [(gB.mk x11_0 x11_1),(gB.mk x12_0 x12_1),(gB.mk x13_0 x13_1),(gB.mk x14_0 x14_1),(gB.mk x15_0 x15_1),(gB.mk x16_0 x16_1),(gB.mk b7_0 b7_1)] hx17) jQ)) ?_
        refine goT ?_
        refine jW ?_
        exact vG 0 [0,1,2,3,5,6,4]
       refine goT ?_
       refine jO (pG (gCq a0_3 hx15) jQ) ?_
       refine jO (pG (qQ b3 hx16) jQ) ?_
       refine jO (pY (T:=105) (us:=gM [(gB.mk x11_0 x11_1),(gB.mk x12_0 x12_1),(gB.mk x13_0 x13_1),(gB.mk x14_0 x14_1),(gB.mk x15_0 x15_1),(gB.mk x16_0 x16_1),(gB.mk b7_0 b7_1)]) jQ) ?_
       refine jO (zO 5 rfl rfl (gBy (sv:=.ag [.S x17_0,.sl 6 0]) (L':=[.box [.S a0_0,.L 1 (gZ a0_1),.I a0_2_0,.S a0_2_1,.L 3 (gJ a0_2_2),.L 4 (jT a0_3),.B a0_4,.B a0_5,.I a0_6_0,.S a0_6_1,.L 3 (gJ a0_6_2),.L 11 (mW a0_7)],.box [.S [],.nilsl],.frz 9 1 v4 (gZ b3),.box [.S b7_0,.L 2 (gM b7_1)],.box [.S [],.nilsl],.frz 107 2 0 (gM [(gB.mk x11_0 x11_1),(gB.mk x12_0 x12_1),(gB.mk x13_0 x13_1),(gB.mk x14_0 x14_1),(gB.mk x15_0 x15_1),(gB.mk x16_0 x16_1),(gB.mk b7_0 b7_1)]),.arr 107 2 0 (gM x17_1)]) [] (uF [(gB.mk x11_0 x11_1),(gB.mk x12_0 x12_1),(gB.mk x13_0 x13_1),(gB.mk x14_0 x14_1),(gB.mk x15_0 x15_1),(gB.mk x16_0 x16_1),(gB.mk b7_0 b7_1)] hx17) jQ)) ?_
       refine goT ?_
       refine jW ?_
       exact vG 0 [0,1,2,3,5,6,4]
      refine goT ?_
      refine jO (pG (gHd 5000 (gD.mk a0_2_0 a0_2_1 a0_2_2) hx14) jQ) ?_
      refine jO (pG (gCq a0_3 hx15) jQ) ?_
      refine jO (pG (qQ b3 hx16) jQ) ?_
      refine jO (pY (T:=105) (us:=gM [(gB.mk x11_0 x11_1),(gB.mk x12_0 x12_1),(gB.mk x13_0 x13_1),(gB.mk x14_0 x14_1),(gB.mk x15_0 x15_1),(gB.mk x16_0 x16_1),(gB.mk b7_0 b7_1)]) jQ) ?_
      refine jO (zO 5 rfl rfl (gBy (sv:=.ag [.S x17_0,.sl 6 0]) (L':=[.box [.S a0_0,.L 1 (gZ a0_1),.I a0_2_0,.S a0_2_1,.L 3 (gJ a0_2_2),.L 4 (jT a0_3),.B a0_4,.B a0_5,.I a0_6_0,.S a0_6_1,.L 3 (gJ a0_6_2),.L 11 (mW a0_7)],.box [.S [],.nilsl],.frz 9 1 v4 (gZ b3),.box [.S b7_0,.L 2 (gM b7_1)],.box [.S [],.nilsl],.frz 107 2 0 (gM [(gB.mk x11_0 x11_1),(gB.mk x12_0 x12_1),(gB.mk x13_0 x13_1),(gB.mk x14_0 x14_1),(gB.mk x15_0 x15_1),(gB.mk x16_0 x16_1),(gB.mk b7_0 b7_1)]),.arr 107 2 0 (gM x17_1)]) [] (uF [(gB.mk x11_0 x11_1),(gB.mk x12_0 x12_1),(gB.mk x13_0 x13_1),(gB.mk x14_0 x14_1),(gB.mk x15_0 x15_1),(gB.mk x16_0 x16_1),(gB.mk b7_0 b7_1)] hx17) jQ)) ?_
      refine goT ?_
      refine jW ?_
      exact vG 0 [0,1,2,3,5,6,4]
     refine goT ?_
     refine jO (pG (qQ a0_1 hx13) jQ) ?_
     refine jO (pG (gHd 5000 (gD.mk a0_2_0 a0_2_1 a0_2_2) hx14) jQ) ?_
     refine jO (pG (gCq a0_3 hx15) jQ) ?_
     refine jO (pG (qQ b3 hx16) jQ) ?_
     refine jO (pY (T:=105) (us:=gM [(gB.mk x11_0 x11_1),(gB.mk x12_0 x12_1),(gB.mk x13_0 x13_1),(gB.mk x14_0 x14_1),(gB.mk x15_0 x15_1),(gB.mk x16_0 x16_1),(gB.mk b7_0 b7_1)]) jQ) ?_
     refine jO (zO 5 rfl rfl (gBy (sv:=.ag [.S x17_0,.sl 6 0]) (L':=[.box [.S a0_0,.L 1 (gZ a0_1),.I a0_2_0,.S a0_2_1,.L 3 (gJ a0_2_2),.L 4 (jT a0_3),.B a0_4,.B a0_5,.I a0_6_0,.S a0_6_1,.L 3 (gJ a0_6_2),.L 11 (mW a0_7)],.box [.S [],.nilsl],.frz 9 1 v4 (gZ b3),.box [.S b7_0,.L 2 (gM b7_1)],.box [.S [],.nilsl],.frz 107 2 0 (gM [(gB.mk x11_0 x11_1),(gB.mk x12_0 x12_1),(gB.mk x13_0 x13_1),(gB.mk x14_0 x14_1),(gB.mk x15_0 x15_1),(gB.mk x16_0 x16_1),(gB.mk b7_0 b7_1)]),.arr 107 2 0 (gM x17_1)]) [] (uF [(gB.mk x11_0 x11_1),(gB.mk x12_0 x12_1),(gB.mk x13_0 x13_1),(gB.mk x14_0 x14_1),(gB.mk x15_0 x15_1),(gB.mk x16_0 x16_1),(gB.mk b7_0 b7_1)] hx17) jQ)) ?_
     refine goT ?_
     refine jW ?_
     exact vG 0 [0,1,2,3,5,6,4]
    refine goT ?_
    refine jO (pG (sx12) jQ) ?_
    refine jO (pG (qQ a0_1 hx13) jQ) ?_
    refine jO (pG (gHd 5000 (gD.mk a0_2_0 a0_2_1 a0_2_2) hx14) jQ) ?_
    refine jO (pG (gCq a0_3 hx15) jQ) ?_
    refine jO (pG (qQ b3 hx16) jQ) ?_
    refine jO (pY (T:=105) (us:=gM [(gB.mk x11_0 x11_1),(gB.mk x12_0 x12_1),(gB.mk x13_0 x13_1),(gB.mk x14_0 x14_1),(gB.mk x15_0 x15_1),(gB.mk x16_0 x16_1),(gB.mk b7_0 b7_1)]) jQ) ?_
    refine jO (zO 5 rfl rfl (gBy (sv:=.ag [.S x17_0,.sl 6 0]) (L':=[.box [.S a0_0,.L 1 (gZ a0_1),.I a0_2_0,.S a0_2_1,.L 3 (gJ a0_2_2),.L 4 (jT a0_3),.B a0_4,.B a0_5,.I a0_6_0,.S a0_6_1,.L 3 (gJ a0_6_2),.L 11 (mW a0_7)],.box [.S [],.nilsl],.frz 9 1 v4 (gZ b3),.box [.S b7_0,.L 2 (gM b7_1)],.box [.S [],.nilsl],.frz 107 2 0 (gM [(gB.mk x11_0 x11_1),(gB.mk x12_0 x12_1),(gB.mk x13_0 x13_1),(gB.mk x14_0 x14_1),(gB.mk x15_0 x15_1),(gB.mk x16_0 x16_1),(gB.mk b7_0 b7_1)]),.arr 107 2 0 (gM x17_1)]) [] (uF [(gB.mk x11_0 x11_1),(gB.mk x12_0 x12_1),(gB.mk x13_0 x13_1),(gB.mk x14_0 x14_1),(gB.mk x15_0 x15_1),(gB.mk x16_0 x16_1),(gB.mk b7_0 b7_1)] hx17) jQ)) ?_
    refine goT ?_
    refine jW ?_
    exact vG 0 [0,1,2,3,5,6,4]
   refine goT ?_
   refine jO (pG (sx11) jQ) ?_
   refine jO (pG (sx12) jQ) ?_
   refine jO (pG (qQ a0_1 hx13) jQ) ?_
   refine jO (pG (gHd 5000 (gD.mk a0_2_0 a0_2_1 a0_2_2) hx14) jQ) ?_
   refine jO (pG (gCq a0_3 hx15) jQ) ?_
   refine jO (pG (qQ b3 hx16) jQ) ?_
   refine jO (pY (T:=105) (us:=gM [(gB.mk x11_0 x11_1),(gB.mk x12_0 x12_1),(gB.mk x13_0 x13_1),(gB.mk x14_0 x14_1),(gB.mk x15_0 x15_1),(gB.mk x16_0 x16_1),(gB.mk b7_0 b7_1)]) jQ) ?_
   refine jO (zO 5 rfl rfl (gBy (sv:=.ag [.S x17_0,.sl 6 0]) (L':=[.box [.S a0_0,.L 1 (gZ a0_1),.I a0_2_0,.S a0_2_1,.L 3 (gJ a0_2_2),.L 4 (jT a0_3),.B a0_4,.B a0_5,.I a0_6_0,.S a0_6_1,.L 3 (gJ a0_6_2),.L 11 (mW a0_7)],.box [.S [],.nilsl],.frz 9 1 v4 (gZ b3),.box [.S b7_0,.L 2 (gM b7_1)],.box [.S [],.nilsl],.frz 107 2 0 (gM [(gB.mk x11_0 x11_1),(gB.mk x12_0 x12_1),(gB.mk x13_0 x13_1),(gB.mk x14_0 x14_1),(gB.mk x15_0 x15_1),(gB.mk x16_0 x16_1),(gB.mk b7_0 b7_1)]),.arr 107 2 0 (gM x17_1)]) [] (uF [(gB.mk x11_0 x11_1),(gB.mk x12_0 x12_1),(gB.mk x13_0 x13_1),(gB.mk x14_0 x14_1),(gB.mk x15_0 x15_1),(gB.mk x16_0 x16_1),(gB.mk b7_0 b7_1)] hx17) jQ)) ?_
   refine goT ?_
   refine jW ?_
   exact vG 0 [0,1,2,3,5,6,4]
  refine goL ?_
  refine noB ?_
  refine vN 0 11 (fun z21=>?_)
  refine kR (fun(y20:Nat) (y18:List gB) (v19:Nat)=>⟨[(1,.ptr 0 0),(2,.ptr 1 0),(5,.ptr 6 0),(6,.N y20)],[.box [.S a0_0,.L 1 (gZ a0_1),.I a0_2_0,.S a0_2_1,.L 3 (gJ a0_2_2),.L 4 (jT a0_3),.B a0_4,.B a0_5,.I a0_6_0,.S a0_6_1,.L 3 (gJ a0_6_2),.L 11 (mW a0_7)],.box [.S [],.nilsl],.frz 9 1 v4 (gZ b3),.box [.S b7_0,.L 2 (gM b7_1)],.frz 107 2 0 (gM [(gB.mk x11_0 x11_1),(gB.mk x12_0 x12_1),(gB.mk x13_0 x13_1),(gB.mk x14_0 x14_1),(gB.mk x15_0 x15_1),(gB.mk x16_0 x16_1),(gB.mk b7_0 b7_1)]),.arr 107 2 v19 (gM y18),.box [.S x17_0,.sl 5 v19]],Tryz.f122.ntmps⟩) (fun y20 y18 v19=>uQ (gB.mk x17_0 x17_1) (a0_7.drop y20) y18=some r) (fun y20 y18 v19=>a0_7.length - y20) 0 x17_1 0 eJ h ?_
  rintro y20 y18 v19 h
  refine goL ?_
  refine mO (fun c22=>?_) (fun c22=>?_)
  ·have hky202:=wE c22
   obtain⟨x23,hx23,hdx23⟩:=drop_at hky202
   rw [hdx23,uQ.eq_2] at h
   obtain⟨x23_0,x23_1,⟨x23_2_0,x23_2_1,x23_2_2,x23_2_3,⟨x23_2_4_0,x23_2_4_1,x23_2_4_2⟩,x23_2_5,x23_2_6⟩⟩:=x23
   refine noS ?_
   refine kI (jE ?_)
   refine goL ?_
   refine qP (jJ y20 (gXi hx23)) ?_
   refine gHk ?_
   refine uX (P:=Tryz.prog) Mix.h [(0,true),(1,true),(2,true),(3,true),(5,true),(6,true),(8,true),(9,true),(4,false),(7,false),(10,false),(11,false),(12,false),(13,false),(14,false),(15,true),(16,false)] (by kernel_rfl) ?_
   refine goY ?_
   obtain⟨⟨x24_0,x24_1⟩,hx24,h⟩:=qR h
   have sx24:=mG x23_0
   rw [hx24] at sx24
   refine pG (sx24) ?_
   obtain⟨⟨x25_0,x25_1⟩,hx25,h⟩:=gK h
   refine pG (qQ x23_1 hx25) ?_
   obtain⟨⟨x26_0,x26_1⟩,hx26,h⟩:=gK h
   refine pG (gR8 5000 (jM.mk x23_2_0 x23_2_1 x23_2_2 x23_2_3 (gD.mk x23_2_4_0 x23_2_4_1 x23_2_4_2) x23_2_5 x23_2_6) hx26) ?_
   refine pY (T:=105) (us:=gM [(gB.mk x24_0 x24_1),(gB.mk x25_0 x25_1),(gB.mk x26_0 x26_1)]) ?_
   refine zO 8 rfl rfl ?_
   obtain⟨⟨x27_0,x27_1⟩,hx27,h⟩:=gK h
   refine pG (gIn [(gB.mk x24_0 x24_1),(gB.mk x25_0 x25_1),(gB.mk x26_0 x26_1)] hx27) ?_
   refine pY (T:=105) (us:=gM [(gB.mk x27_0 x27_1)]) ?_
   obtain⟨g28,h⟩:=mZ h
   refine pV (T:=105) g28 ?_
   refine goY ?_
   refine kS ?_
   refine goL ?_
   refine jI (jS y20 (by omega)) ?_
   exact⟨(y20+1),(y18++[(gB.mk x27_0 x27_1)]),(v19+1),h,by omega,eJ⟩
  ·have hky202:=wF c22
   rw [jF hky202,uQ.eq_1] at h
   refine goX ?_
   refine vO 5 rfl rfl ?_
   refine gX4 ?_
   obtain⟨⟨x29_0,x29_1⟩,hx29,h⟩:=gK h
   refine gA6 (gXe (gOs true (gB.mk x17_0 y18) hx29)) ?_
   exact goR h
def uR(a0:mD):List gE8→(List gB)→Option (gB)
 | [],y3=>lt_ (kV [102,110]) fun x13=>
lt_ (kV a0.name) fun x14=>
bnd (zR a0.vars) fun x15=>
bnd (gId a0.where_) fun x16=>
bnd (gIw 5000 a0.result) fun x17=>
bnd (gI4 5000 a0.body) fun x18=>
bnd (gF1 [x13,x14,x15,x16,(gB.mk [] y3),x17,x18]) fun x19=>
bnd (gKg true x19) fun x20=>
(some x20)
 | x8::xs,y3=>lt_ (kV x8.name) fun x9=>
bnd (gIw 5000 x8.type_) fun x10=>
bnd (gF1 [x9,x10]) fun x11=>
gd (y3.length+[x11].length≤4294967296) (
uR a0 xs (y3++[x11]))
def gB8(a0:mD):Option (gB):=
bnd (zZ a0) fun x1=>
(cnd (!x1) (
(some (gB.mk [] []))) (
uR a0 a0.params []))
theorem gJp(a0:mD){r:gB}(h:gB8 a0=some r):jB Tryz.prog 123 [.d (gDp a0)] [mF r]:=by
 obtain⟨a0_0,a0_1,a0_2,a0_3,⟨a0_4_0,a0_4_1,a0_4_2⟩,⟨a0_5_0,a0_5_1,a0_5_2,a0_5_3,⟨a0_5_4_0,a0_5_4_1,a0_5_4_2⟩,a0_5_5,a0_5_6⟩⟩:=a0
 unfold gB8 at h
 refine SpI Tryz.func123 fun A _=>?_
 refine goL ?_
 obtain⟨x1,hx1,h⟩:=gK h
 refine jI (gF (gFr (mD.mk a0_0 a0_1 a0_2 a0_3 (gD.mk a0_4_0 a0_4_1 a0_4_2) (jM.mk a0_5_0 a0_5_1 a0_5_2 a0_5_3 (gD.mk a0_5_4_0 a0_5_4_1 a0_5_4_2) a0_5_5 a0_5_6)) hx1)) ?_
 refine mO (fun c2=>?_) (fun c2=>?_)
 ·replace h:=gX c2 h
  refine goL ?_
  refine gA6 (kD TBd.h TZ.h rfl (by repeat constructor)) ?_
  exact goR h
 ·replace h:=gY c2 h
  refine goS ?_
  refine gFl (kD TBd.h TZ.h rfl (by repeat constructor)) ?_
  refine noB ?_
  refine yJ 107 2 2 1 rfl rfl (by repeat constructor) (by repeat constructor) (by repeat constructor) (by repeat constructor) ?_
  show V _ _ _ _ _
  refine vN 0 3 (fun z6=>?_)
  refine kR (fun(y5:Nat) (y3:List gB) (v4:Nat)=>⟨[(1,.ptr 0 0),(2,.ptr 1 0),(3,.ptr 2 0),(4,.N y5)],[.box [.S a0_0,.L 1 (gZ a0_1),.L 4 (jT a0_2),.L 4 (gE9 a0_3),.I a0_4_0,.S a0_4_1,.L 3 (gJ a0_4_2),.I a0_5_0,.S a0_5_1,.S a0_5_2,.I a0_5_3,.I a0_5_4_0,.S a0_5_4_1,.L 3 (gJ a0_5_4_2),.L 9 (kP a0_5_5),.L 11 (qD a0_5_6)],.box [.S [],.nilsl],.box [.S [],.sl 3 v4],.arr 107 2 v4 (gM y3)],Tryz.f123.ntmps⟩) (fun y5 y3 v4=>uR (mD.mk a0_0 a0_1 a0_2 a0_3 (gD.mk a0_4_0 a0_4_1 a0_4_2) (jM.mk a0_5_0 a0_5_1 a0_5_2 a0_5_3 (gD.mk a0_5_4_0 a0_5_4_1 a0_5_4_2) a0_5_5 a0_5_6)) (a0_3.drop y5) y3=some r) (fun y5 y3 v4=>a0_3.length - y5) 0 [] 0 eJ h ?_
  rintro y5 y3 v4 h
  refine goL ?_
  refine mO (fun c7=>?_) (fun c7=>?_)
  ·have hky52:=wE c7
   obtain⟨x8,hx8,hdx8⟩:=drop_at hky52
   rw [hdx8,uR.eq_2] at h
   obtain⟨x8_0,⟨x8_1_0,x8_1_1,x8_1_2⟩⟩:=x8
   refine noS ?_
   refine kI (jE ?_)
   refine uX (P:=Tryz.prog) Mix.h [(0,true),(1,true),(2,true),(3,true),(4,true),(5,true),(6,true),(7,true),(9,true),(10,true),(11,true),(12,true),(13,true),(14,true),(8,false),(15,false),(16,false),(17,false),(18,false),(19,false),(20,true),(21,false)] (by kernel_rfl) ?_
   refine goY ?_
   refine jC rfl (jJ y5 (gTv hx8)) ?_
   refine goY ?_
   refine jC rfl (jJ y5 (gTv hx8)) ?_
   refine goY ?_
   obtain⟨⟨x9_0,x9_1⟩,hx9,h⟩:=qR h
   have sx9:=mG x8_0
   rw [hx9] at sx9
   refine pG (sx9) ?_
   obtain⟨⟨x10_0,x10_1⟩,hx10,h⟩:=gK h
   refine pG (gHd 5000 (gD.mk x8_1_0 x8_1_1 x8_1_2) hx10) ?_
   refine pY (T:=105) (us:=gM [(gB.mk x9_0 x9_1),(gB.mk x10_0 x10_1)]) ?_
   refine zO 4 rfl rfl ?_
   obtain⟨⟨x11_0,x11_1⟩,hx11,h⟩:=gK h
   refine pG (gIn [(gB.mk x9_0 x9_1),(gB.mk x10_0 x10_1)] hx11) ?_
   refine pY (T:=105) (us:=gM [(gB.mk x11_0 x11_1)]) ?_
   obtain⟨g12,h⟩:=mZ h
   refine pV (T:=105) g12 ?_
   refine goY ?_
   refine kS ?_
   refine goL ?_
   refine jI (jS y5 (by omega)) ?_
   exact⟨(y5+1),(y3++[(gB.mk x11_0 x11_1)]),(v4+1),h,by omega,eJ⟩
  ·have hky52:=wF c7
   rw [jF hky52,uR.eq_1] at h
   refine noX ?_
   refine kK 3 rfl rfl ?_
   refine hHa ?_
   refine jL (P:=Tryz.prog) Mix.h [(1,true),(2,true),(4,true),(5,true),(7,true),(8,true),(10,true),(11,true),(12,true),(14,true),(15,true),(0,false),(3,false),(6,false),(9,false),(13,false),(16,false),(17,false),(18,false),(19,false),(20,false)] (by kernel_rfl) ?_
   refine goY ?_
   obtain⟨⟨x13_0,x13_1⟩,hx13,h⟩:=qR h
   have sx13:=mG [102,110]
   rw [hx13] at sx13
   refine pG (sx13) ?_
   obtain⟨⟨x14_0,x14_1⟩,hx14,h⟩:=qR h
   have sx14:=mG a0_0
   rw [hx14] at sx14
   refine pG (sx14) ?_
   obtain⟨⟨x15_0,x15_1⟩,hx15,h⟩:=gK h
   refine pG (qQ a0_1 hx15) ?_
   obtain⟨⟨x16_0,x16_1⟩,hx16,h⟩:=gK h
   refine pG (gCq a0_2 hx16) ?_
   obtain⟨⟨x17_0,x17_1⟩,hx17,h⟩:=gK h
   refine pG (gHd 5000 (gD.mk a0_4_0 a0_4_1 a0_4_2) hx17) ?_
   obtain⟨⟨x18_0,x18_1⟩,hx18,h⟩:=gK h
   refine pG (gR8 5000 (jM.mk a0_5_0 a0_5_1 a0_5_2 a0_5_3 (gD.mk a0_5_4_0 a0_5_4_1 a0_5_4_2) a0_5_5 a0_5_6) hx18) ?_
   refine pY (T:=105) (us:=gM [(gB.mk x13_0 x13_1),(gB.mk x14_0 x14_1),(gB.mk x15_0 x15_1),(gB.mk x16_0 x16_1),(gB.mk [] y3),(gB.mk x17_0 x17_1),(gB.mk x18_0 x18_1)]) ?_
   refine zO 4 rfl rfl ?_
   obtain⟨⟨x19_0,x19_1⟩,hx19,h⟩:=gK h
   refine pG (gIn [(gB.mk x13_0 x13_1),(gB.mk x14_0 x14_1),(gB.mk x15_0 x15_1),(gB.mk x16_0 x16_1),(gB.mk [] y3),(gB.mk x17_0 x17_1),(gB.mk x18_0 x18_1)] hx19) ?_
   obtain⟨⟨x20_0,x20_1⟩,hx20,h⟩:=gK h
   refine pG (gOs true (gB.mk x19_0 x19_1) hx20) ?_
   refine goY ?_
   refine kS ?_
   exact goR h
end Go.Proofs.YtfaplndgbgoaaaaGreatDoor
