import Derived.Test.YtfaplndgbgoaaaaGreatDoorEng38
import Derived.Test.YtfaplndgbgoaaaaGreatDoorEng67
import Derived.Test.YtfaplndgbgoaaaaGreatDoorSfi0
import Derived.Test.YtfaplndgbgoaaaaGreatDoorB11
import Derived.Test.YtfaplndgbgoaaaaGreatDoorB15
import Derived.Test.YtfaplndgbgoaaaaGreatDoorB2
import Derived.Test.YtfaplndgbgoaaaaGreatDoorB5
import Derived.Test.YtfaplndgbgoaaaaGreatDoorVr
import Derived.Test.YtfaplndgbgoaaaaGreatDoorUn1
import Derived.Test.YtfaplndgbgoaaaaGreatDoorZz
set_option maxHeartbeats 4000000
set_option linter.unusedVariables false
set_option linter.unusedSimpArgs false
set_option linter.unusedSectionVars false
namespace Go.Proofs.YtfaplndgbgoaaaaGreatDoor
open Go Go.Eng
attribute [local irreducible] V VO VQ VY Quiet QR jB kX Rng uJ uY qW
def wY(rec_l32Equate:gH→(List jD)→gG→gD→gD→Int→Option (gG))(a0:gH)(a1:List jD)(a5:Int)(x5:gD):List gD→Nat→Int→Int→Int→(List gI)→(List kE)→(List kH)→Int→Int→Option (gG)
 | [],y49,y41,y42,y43,y44,y45,y46,y47,y48=>(some (gG.mk y41 y42 y43 y44 y45 y46 y47 y48))
 | x52::xs,y49,y41,y42,y43,y44,y45,y46,y47,y48=>bnd (at? x5.args (y49:Int)) fun x53=>
bnd (rec_l32Equate a0 a1 (gG.mk y41 y42 y43 y44 y45 y46 y47 y48) x52 x53 (IntKind.i64.wrap (a5 - 1))) fun x54=>
wY rec_l32Equate a0 a1 a5 x5 xs (y49+1) x54.next x54.count x54.node x54.bindings x54.equations x54.obligations x54.code x54.at_
def gEu(rec_l32Equate:gH→(List jD)→gG→gD→gD→Int→Option (gG))(a0:gH)(a1:List jD)(a2:gG)(a3:gD)(a4:gD)(a5:Int):Option (gG):=
(cnd (a2.code != 0) (
(some a2)) (
gd (bok (a2:gG).bindings∧tok a3) (lt_ (zkF a2 a3) fun x3=>
gd (bok (a2:gG).bindings∧tok a4) (lt_ (zkF a2 a4) fun x5=>
(cnd (teq x3 x5) (
(some a2)) (
lt_ ((cnd (decide (a5≤0)) (true) ((decide ((IntKind.i64.wrap ((tsz x3)+(tsz x5))) > 2000))))) fun b7=>
(cnd b7 (
lt_ (yS a2 6) fun x10=>
(some x10)) (
bnd (gDw x3) fun x11=>
(cnd x11 (
bnd (gGj a2 x3.name x5) fun x13=>
(some x13)) (
bnd (gDw x5) fun x14=>
(cnd x14 (
bnd (gGj a2 x5.name x3) fun x16=>
(some x16)) (
bnd (gBs a0 a1 x3) fun x17=>
(cnd (!x17.2.2) (
lt_ (yS a2 7) fun x19=>
(some x19)) (
(cnd x17.2.1 (
bnd (rec_l32Equate a0 a1 a2 x17.1 x5 (IntKind.i64.wrap (a5 - 1))) fun x21=>
(some x21)) (
bnd (gBs a0 a1 x5) fun x22=>
(cnd (!x22.2.2) (
lt_ (yS a2 7) fun x24=>
(some x24)) (
(cnd x22.2.1 (
bnd (rec_l32Equate a0 a1 a2 x3 x22.1 (IntKind.i64.wrap (a5 - 1))) fun x26=>
(some x26)) (
lt_ ((cnd (x3.kind==3) ((cnd (gLj x3) (true) ((cnd (x5.kind==3) ((gLj x5)) (false))))) ((cnd (x5.kind==3) ((gLj x5)) (false))))) fun b27=>
(cnd b27 (
gd (([]:List kE).length+a2.equations.length≤4294967296) (
gd (([]++a2.equations).length+[(kE.mk x3 x5 a2.node)].length≤4294967296) (
(some (gG.mk a2.next a2.count a2.node a2.bindings (([]++a2.equations)++[(kE.mk x3 x5 a2.node)]) a2.obligations a2.code a2.at_))))) (
lt_ ((cnd (x3.kind != x5.kind) (true) ((cnd (!(x3.name==x5.name)) (true) ((cnd ((x3.args.length:Int) !=(x5.args.length:Int)) (true) ((x3.kind==3)))))))) fun b35=>
(cnd b35 (
lt_ (yS a2 1) fun x40=>
(some x40)) (
wY rec_l32Equate a0 a1 a5 x5 x3.args 0 a2.next a2.count a2.node a2.bindings a2.equations a2.obligations a2.code a2.at_))))))))))))))))))))))))
theorem gR9{rec_l32Equate:gH→(List jD)→gG→gD→gD→Int→Option (gG)}(hrec_l32Equate:∀(x0:gH) (x1:List jD) (x2:gG) (x3:gD) (x4:gD) (x5:Int) {r:gG},rec_l32Equate x0 x1 x2 x3 x4 x5=some r→jB Tryz.prog 38 [.d (kT x0),.L 4 (jT x1),.d (mE x2),.d (jP x3),.d (jP x4),.I x5] [mE r])(a0:gH)(a1:List jD)(a2:gG)(a3:gD)(a4:gD)(a5:Int){r:gG}(h:gEu rec_l32Equate a0 a1 a2 a3 a4 a5=some r):jB Tryz.prog 38 [.d (kT a0),.L 4 (jT a1),.d (mE a2),.d (jP a3),.d (jP a4),.I a5] [mE r]:=by
 obtain⟨a0_0⟩:=a0
 obtain⟨a2_0,a2_1,a2_2,a2_3,a2_4,a2_5,a2_6,a2_7⟩:=a2
 obtain⟨a3_0,a3_1,a3_2⟩:=a3
 obtain⟨a4_0,a4_1,a4_2⟩:=a4
 unfold gEu at h
 refine SpI Tryz.func38 fun A _=>?_
 refine goC h ?_ ?_<;>intro c1 h
 ·exact goR h
 ·refine goS ?_
  obtain⟨g2,h⟩:=mZ h
  obtain⟨⟨x3_0,x3_1,x3_2⟩,hx3,h⟩:=qR h
  have sx3:=gUz (gG.mk a2_0 a2_1 a2_2 a2_3 a2_4 a2_5 a2_6 a2_7) (gD.mk a3_0 a3_1 a3_2) g2
  rw [hx3] at sx3
  refine jI (gF (sx3)) ?_
  obtain⟨g4,h⟩:=mZ h
  obtain⟨⟨x5_0,x5_1,x5_2⟩,hx5,h⟩:=qR h
  have sx5:=gUz (gG.mk a2_0 a2_1 a2_2 a2_3 a2_4 a2_5 a2_6 a2_7) (gD.mk a4_0 a4_1 a4_2) g4
  rw [hx5] at sx5
  refine jI (gF (sx5)) ?_
  refine kI (jE ?_)
  refine goL ?_
  refine jI (gF (gBw (gD.mk x3_0 x3_1 x3_2) (gD.mk x5_0 x5_1 x5_2))) ?_
  refine mO (fun c6=>?_) (fun c6=>?_)
  ·replace h:=gX c6 h
   exact goR h
  ·replace h:=gY c6 h
   obtain⟨b7,hb7,h⟩:=qR h
   refine qZ (P:=Tryz.prog) Mix.h ⟨[(1,.L 4 (jT a1)),(5,.I a5),(6,.ptr 0 0),(8,.ptr 1 0),(9,.ptr 2 0),(10,.ptr 3 0),(12,.ptr 4 0),(35,.B b7)],[.box [.L 6 (kN a0_0)],.box [.I a2_0,.I a2_1,.I a2_2,.L 4 (gQ a2_3),.L 7 (jY a2_4),.L 5 (jR a2_5),.I a2_6,.I a2_7],.box [.I x3_0,.S x3_1,.L 3 (gJ x3_2)],.box [.I x5_0,.S x5_1,.L 3 (gJ x5_2)],.box [.I 0,.I 0,.I 0,.nilsl,.nilsl,.nilsl,.I 0,.I 0]],Tryz.f38.ntmps⟩ (by kernel_rfl) ?_ ?_
   ·refine goL ?_
    refine vR 38 (fun c8=>?_) (fun c8=>?_)
    ·replace hb7:=gX c8 hb7
     refine goL ?_
     cases hb7
     exact eJ
    ·replace hb7:=gY c8 hb7
     refine goL ?_
     refine gBe (gF (gG9 (gD.mk x3_0 x3_1 x3_2))) ?_
     refine goL ?_
     refine gBe (gF (gG9 (gD.mk x5_0 x5_1 x5_2))) ?_
     refine gBe (qC) ?_
     refine goL ?_
     cases hb7
     exact eJ
   refine goC h ?_ ?_<;>intro c9 h
   ·refine goL ?_
    obtain⟨⟨x10_0,x10_1,x10_2,x10_3,x10_4,x10_5,x10_6,x10_7⟩,hx10,h⟩:=qR h
    have sx10:=gH4 (gG.mk a2_0 a2_1 a2_2 a2_3 a2_4 a2_5 a2_6 a2_7) 6
    rw [hx10] at sx10
    refine qP (gF (sx10)) ?_
    exact goR h
   ·refine goL ?_
    obtain⟨x11,hx11,h⟩:=gK h
    refine jI (gF (gKe (gD.mk x3_0 x3_1 x3_2) hx11)) ?_
    refine mO (fun c12=>?_) (fun c12=>?_)
    ·replace h:=gX c12 h
     refine goL ?_
     obtain⟨⟨x13_0,x13_1,x13_2,x13_3,x13_4,x13_5,x13_6,x13_7⟩,hx13,h⟩:=gK h
     refine qP (gF (gRr (gG.mk a2_0 a2_1 a2_2 a2_3 a2_4 a2_5 a2_6 a2_7) x3_1 (gD.mk x5_0 x5_1 x5_2) hx13)) ?_
     exact goR h
    ·replace h:=gY c12 h
     refine goL ?_
     obtain⟨x14,hx14,h⟩:=gK h
     refine jI (gF (gKe (gD.mk x5_0 x5_1 x5_2) hx14)) ?_
     refine mO (fun c15=>?_) (fun c15=>?_)
     ·replace h:=gX c15 h
      refine goL ?_
      obtain⟨⟨x16_0,x16_1,x16_2,x16_3,x16_4,x16_5,x16_6,x16_7⟩,hx16,h⟩:=gK h
      refine qP (gF (gRr (gG.mk a2_0 a2_1 a2_2 a2_3 a2_4 a2_5 a2_6 a2_7) x5_1 (gD.mk x3_0 x3_1 x3_2) hx16)) ?_
      exact goR h
     ·replace h:=gY c15 h
      refine goS ?_
      obtain⟨⟨⟨x17_0_0,x17_0_1,x17_0_2⟩,x17_1,x17_2⟩,hx17,h⟩:=gK h
      refine jI (gF (gK4 (gH.mk a0_0) a1 (gD.mk x3_0 x3_1 x3_2) hx17)) ?_
      refine mO (fun c18=>?_) (fun c18=>?_)
      ·replace h:=gX c18 h
       refine goL ?_
       obtain⟨⟨x19_0,x19_1,x19_2,x19_3,x19_4,x19_5,x19_6,x19_7⟩,hx19,h⟩:=qR h
       have sx19:=gH4 (gG.mk a2_0 a2_1 a2_2 a2_3 a2_4 a2_5 a2_6 a2_7) 7
       rw [hx19] at sx19
       refine qP (gF (sx19)) ?_
       exact goR h
      ·replace h:=gY c18 h
       refine goS ?_
       refine mO (fun c20=>?_) (fun c20=>?_)
       ·replace h:=gX c20 h
        refine goL ?_
        refine qP (qC) ?_
        obtain⟨⟨x21_0,x21_1,x21_2,x21_3,x21_4,x21_5,x21_6,x21_7⟩,hx21,h⟩:=gK h
        refine qP (gF (hrec_l32Equate (gH.mk a0_0) a1 (gG.mk a2_0 a2_1 a2_2 a2_3 a2_4 a2_5 a2_6 a2_7) (gD.mk x17_0_0 x17_0_1 x17_0_2) (gD.mk x5_0 x5_1 x5_2) (IntKind.i64.wrap (a5 - 1)) hx21)) ?_
        exact goR h
       ·replace h:=gY c20 h
        refine goS ?_
        obtain⟨⟨⟨x22_0_0,x22_0_1,x22_0_2⟩,x22_1,x22_2⟩,hx22,h⟩:=gK h
        refine jI (gF (gK4 (gH.mk a0_0) a1 (gD.mk x5_0 x5_1 x5_2) hx22)) ?_
        refine mO (fun c23=>?_) (fun c23=>?_)
        ·replace h:=gX c23 h
         refine goL ?_
         obtain⟨⟨x24_0,x24_1,x24_2,x24_3,x24_4,x24_5,x24_6,x24_7⟩,hx24,h⟩:=qR h
         have sx24:=gH4 (gG.mk a2_0 a2_1 a2_2 a2_3 a2_4 a2_5 a2_6 a2_7) 7
         rw [hx24] at sx24
         refine qP (gF (sx24)) ?_
         exact goR h
        ·replace h:=gY c23 h
         refine goS ?_
         refine mO (fun c25=>?_) (fun c25=>?_)
         ·replace h:=gX c25 h
          refine goL ?_
          refine qP (qC) ?_
          obtain⟨⟨x26_0,x26_1,x26_2,x26_3,x26_4,x26_5,x26_6,x26_7⟩,hx26,h⟩:=gK h
          refine qP (gF (hrec_l32Equate (gH.mk a0_0) a1 (gG.mk a2_0 a2_1 a2_2 a2_3 a2_4 a2_5 a2_6 a2_7) (gD.mk x3_0 x3_1 x3_2) (gD.mk x22_0_0 x22_0_1 x22_0_2) (IntKind.i64.wrap (a5 - 1)) hx26)) ?_
          exact goR h
         ·replace h:=gY c25 h
          refine goS ?_
          obtain⟨b27,hb27,h⟩:=qR h
          refine jU ⟨[(1,.L 4 (jT a1)),(5,.I a5),(6,.ptr 0 0),(8,.ptr 1 0),(9,.ptr 2 0),(10,.ptr 3 0),(12,.ptr 4 0),(121,.B b27)],[.box [.L 6 (kN a0_0)],.box [.I a2_0,.I a2_1,.I a2_2,.L 4 (gQ a2_3),.L 7 (jY a2_4),.L 5 (jR a2_5),.I a2_6,.I a2_7],.box [.I x3_0,.S x3_1,.L 3 (gJ x3_2)],.box [.I x5_0,.S x5_1,.L 3 (gJ x5_2)],.box [.I 0,.I 0,.I 0,.nilsl,.nilsl,.nilsl,.I 0,.I 0],.box [.I x17_0_0,.S x17_0_1,.L 3 (gJ x17_0_2)],.box [.I x22_0_0,.S x22_0_1,.L 3 (gJ x22_0_2)]],Tryz.f38.ntmps⟩ ?_ ?_
          ·refine gN 109 (fun c28=>?_) (fun c28=>?_)
           ·replace hb27:=gX c28 hb27
            refine goL ?_
            refine uD ?_
            refine jI (gF (gTc (gD.mk x3_0 x3_1 x3_2))) ?_
            refine gN 113 (fun c29=>?_) (fun c29=>?_)
            ·replace hb27:=gX c29 hb27
             refine goL ?_
             cases hb27
             exact eJ
            ·replace hb27:=gY c29 hb27
             refine goL ?_
             refine gN 117 (fun c30=>?_) (fun c30=>?_)
             ·replace hb27:=gX c30 hb27
              refine goL ?_
              refine uD ?_
              refine jI (gF (gTc (gD.mk x5_0 x5_1 x5_2))) ?_
              cases hb27
              exact eJ
             ·replace hb27:=gY c30 hb27
              refine goL ?_
              cases hb27
              exact eJ
           ·replace hb27:=gY c28 hb27
            refine goL ?_
            refine gN 117 (fun c31=>?_) (fun c31=>?_)
            ·replace hb27:=gX c31 hb27
             refine goL ?_
             refine uD ?_
             refine jI (gF (gTc (gD.mk x5_0 x5_1 x5_2))) ?_
             cases hb27
             exact eJ
            ·replace hb27:=gY c31 hb27
             refine goL ?_
             cases hb27
             exact eJ
          refine goC h ?_ ?_<;>intro c32 h
          ·obtain⟨g33,h⟩:=mZ h
           obtain⟨g34,h⟩:=mZ h
           refine uZ (P:=Tryz.prog) Mix.h (.q 1 (.q 2 (.q 4 (.q 5 (.q 6 (.q 7 (.q 8 (.h 0 (.h 3 (.h 9 (.h 10 (.q 11 (.h 12 .nil .nil)) .nil) .nil) (.h 9 (.h 3 (.h 10 (.q 11 (.h 12 .nil .nil)) .nil) .nil) .nil)) (.h 9 (.h 0 (.h 3 (.h 10 (.q 11 (.h 12 .nil .nil)) .nil) .nil) .nil) .nil))))))))) ⟨[(8,.ptr 1 0),(12,.ptr 4 0)],[.box [.L 6 (kN a0_0)],.box [.I a2_0,.I a2_1,.I a2_2,.L 4 (gQ a2_3),.sl 7 ((0+1)+1),.L 5 (jR a2_5),.I a2_6,.I a2_7],.box [.I x3_0,.S x3_1,.L 3 (gJ x3_2)],.box [.I x5_0,.S x5_1,.L 3 (gJ x5_2)],.box [.I 0,.I 0,.I 0,.nilsl,.nilsl,.nilsl,.I 0,.I 0],.box [.I x17_0_0,.S x17_0_1,.L 3 (gJ x17_0_2)],.box [.I x22_0_0,.S x22_0_1,.L 3 (gJ x22_0_2)],.arr 69 7 ((0+1)+1) (jY (([]++a2_4)++[(kE.mk (gD.mk x3_0 x3_1 x3_2) (gD.mk x5_0 x5_1 x5_2) a2_2)])),.arr 69 7 0 (jY [(kE.mk (gD.mk x3_0 x3_1 x3_2) (gD.mk x5_0 x5_1 x5_2) a2_2)])],Tryz.f38.ntmps⟩ (by kernel_rfl) ?_ ?_
           ·refine goT ?_
            refine wQ (gT3 jQ) ?_ ?_
            ·refine wQ (pV (T:=25) g33 jQ) ?_ ?_
             ·refine jO (pY (T:=25) (us:=jY [(kE.mk (gD.mk x3_0 x3_1 x3_2) (gD.mk x5_0 x5_1 x5_2) a2_2)]) jQ) ?_
              refine jO (pV (T:=25) g34 jQ) ?_
              refine goT ?_
              refine jW ?_
              exact vG 0 [0,1,2,3,4,5,6,7,8]
             refine jO (pY (T:=25) (us:=jY [(kE.mk (gD.mk x3_0 x3_1 x3_2) (gD.mk x5_0 x5_1 x5_2) a2_2)]) jQ) ?_
             refine jO (pV (T:=25) g33 jQ) ?_
             refine jO (pV (T:=25) g34 jQ) ?_
             refine goT ?_
             refine jW ?_
             exact vG 0 [0,1,2,3,4,5,6,7,8]
            refine jO (pY (T:=25) (us:=jY [(kE.mk (gD.mk x3_0 x3_1 x3_2) (gD.mk x5_0 x5_1 x5_2) a2_2)]) jQ) ?_
            refine jO (gT3 jQ) ?_
            refine jO (pV (T:=25) g33 jQ) ?_
            refine jO (pV (T:=25) g34 jQ) ?_
            refine goT ?_
            refine jW ?_
            exact vG 0 [0,1,2,3,4,5,6,8,7]
           refine goL ?_
           refine kK 7 rfl rfl ?_
           refine jN ?_
           cases h
           exact qK
          ·refine goS ?_
           obtain⟨b35,hb35,h⟩:=qR h
           refine jU ⟨[(1,.L 4 (jT a1)),(5,.I a5),(6,.ptr 0 0),(8,.ptr 1 0),(9,.ptr 2 0),(10,.ptr 3 0),(12,.ptr 4 0),(160,.B b35)],[.box [.L 6 (kN a0_0)],.box [.I a2_0,.I a2_1,.I a2_2,.L 4 (gQ a2_3),.L 7 (jY a2_4),.L 5 (jR a2_5),.I a2_6,.I a2_7],.box [.I x3_0,.S x3_1,.L 3 (gJ x3_2)],.box [.I x5_0,.S x5_1,.L 3 (gJ x5_2)],.box [.I 0,.I 0,.I 0,.nilsl,.nilsl,.nilsl,.I 0,.I 0],.box [.I x17_0_0,.S x17_0_1,.L 3 (gJ x17_0_2)],.box [.I x22_0_0,.S x22_0_1,.L 3 (gJ x22_0_2)]],Tryz.f38.ntmps⟩ ?_ ?_
           ·refine gN 140 (fun c36=>?_) (fun c36=>?_) (by first | rfl | (simp only [jG,gU];rfl))
            ·replace hb35:=gX c36 hb35
             refine goL ?_
             cases hb35
             exact⟨rfl,⟨⟨rfl,rfl⟩,⟨rfl,rfl⟩,⟨rfl,rfl⟩,⟨rfl,rfl⟩,⟨rfl,rfl⟩,⟨rfl,rfl⟩,⟨rfl,rfl⟩,⟨by first | rfl | (simp only [jG,gU];rfl),rfl⟩,trivial⟩,⟨_,rfl⟩,rfl⟩
            ·replace hb35:=gY c36 hb35
             refine goL ?_
             refine gN 147 (fun c37=>?_) (fun c37=>?_) (by first | rfl | (simp only [jG,gU];rfl))
             ·replace hb35:=gX c37 hb35
              refine goL ?_
              cases hb35
              exact⟨rfl,⟨⟨rfl,rfl⟩,⟨rfl,rfl⟩,⟨rfl,rfl⟩,⟨rfl,rfl⟩,⟨rfl,rfl⟩,⟨rfl,rfl⟩,⟨rfl,rfl⟩,⟨by first | rfl | (simp only [jG,gU];rfl),rfl⟩,trivial⟩,⟨_,rfl⟩,rfl⟩
             ·replace hb35:=gY c37 hb35
              refine goL ?_
              refine gN 156 (fun c38=>?_) (fun c38=>?_) (by first | rfl | (simp only [jG,gU];rfl))
              ·replace hb35:=gX c38 hb35
               refine goL ?_
               cases hb35
               exact⟨rfl,⟨⟨rfl,rfl⟩,⟨rfl,rfl⟩,⟨rfl,rfl⟩,⟨rfl,rfl⟩,⟨rfl,rfl⟩,⟨rfl,rfl⟩,⟨rfl,rfl⟩,⟨by first | rfl | (simp only [jG,gU];rfl),rfl⟩,trivial⟩,⟨_,rfl⟩,rfl⟩
              ·replace hb35:=gY c38 hb35
               refine goL ?_
               cases hb35
               exact⟨rfl,⟨⟨rfl,rfl⟩,⟨rfl,rfl⟩,⟨rfl,rfl⟩,⟨rfl,rfl⟩,⟨rfl,rfl⟩,⟨rfl,rfl⟩,⟨rfl,rfl⟩,⟨by first | rfl | (simp only [jG,gU];rfl),rfl⟩,trivial⟩,⟨_,rfl⟩,rfl⟩
           refine goC h ?_ ?_<;>intro c39 h
           ·refine goL ?_
            obtain⟨⟨x40_0,x40_1,x40_2,x40_3,x40_4,x40_5,x40_6,x40_7⟩,hx40,h⟩:=qR h
            have sx40:=gH4 (gG.mk a2_0 a2_1 a2_2 a2_3 a2_4 a2_5 a2_6 a2_7) 1
            rw [hx40] at sx40
            refine qP (gF (sx40)) ?_
            exact goR h
           ·refine goS ?_
            refine noB ?_
            refine vN 2 2 (fun z50=>?_)
            refine gX5 (fun(y49:Nat) (y41:Int) (y42:Int) (y43:Int) (y44:List gI) (y45:List kE) (y46:List kH) (y47:Int) (y48:Int)=>⟨[(1,.L 4 (jT a1)),(5,.I a5),(6,.ptr 0 0),(8,.ptr 1 0),(9,.ptr 2 0),(10,.ptr 3 0),(12,.ptr 4 0),(19,.N y49)],[.box [.L 6 (kN a0_0)],.box [.I y41,.I y42,.I y43,.L 4 (gQ y44),.L 7 (jY y45),.L 5 (jR y46),.I y47,.I y48],.box [.I x3_0,.S x3_1,.L 3 (gJ x3_2)],.box [.I x5_0,.S x5_1,.L 3 (gJ x5_2)],.box [.I 0,.I 0,.I 0,.nilsl,.nilsl,.nilsl,.I 0,.I 0],.box [.I x17_0_0,.S x17_0_1,.L 3 (gJ x17_0_2)],.box [.I x22_0_0,.S x22_0_1,.L 3 (gJ x22_0_2)]],Tryz.f38.ntmps⟩) (fun y49 y41 y42 y43 y44 y45 y46 y47 y48=>wY rec_l32Equate (gH.mk a0_0) a1 a5 (gD.mk x5_0 x5_1 x5_2) (x3_2.drop y49) y49 y41 y42 y43 y44 y45 y46 y47 y48=some r) (fun y49 y41 y42 y43 y44 y45 y46 y47 y48=>x3_2.length - y49) 0 a2_0 a2_1 a2_2 a2_3 a2_4 a2_5 a2_6 a2_7 eJ h ?_
            rintro y49 y41 y42 y43 y44 y45 y46 y47 y48 h
            refine goL ?_
            refine mO (fun c51=>?_) (fun c51=>?_)
            ·have hky492:=wE c51
             obtain⟨x52,hx52,hdx52⟩:=drop_at hky492
             rw [hdx52,wY.eq_2] at h
             obtain⟨x52_0,x52_1,x52_2⟩:=x52
             refine noS ?_
             refine kI (jE ?_)
             refine uX (P:=Tryz.prog) Mix.h [(0,true),(1,true),(2,true),(3,true),(4,true),(5,true),(6,true),(7,true),(8,true),(9,true),(10,true),(11,true),(12,true),(13,true),(14,true),(15,true),(16,false)] (by kernel_rfl) ?_
             refine goY ?_
             refine jC rfl (jJ y49 (gBb hx52)) ?_
             refine goY ?_
             obtain⟨x53,hx53,h⟩:=gK h
             rw [gD7] at hx53
             obtain⟨x53_0,x53_1,x53_2⟩:=x53
             refine jC rfl (jJ y49 (gBb hx53)) ?_
             refine goY ?_
             refine jC rfl (qC) ?_
             obtain⟨⟨x54_0,x54_1,x54_2,x54_3,x54_4,x54_5,x54_6,x54_7⟩,hx54,h⟩:=gK h
             refine jC rfl (gF (hrec_l32Equate (gH.mk a0_0) a1 (gG.mk y41 y42 y43 y44 y45 y46 y47 y48) (gD.mk x52_0 x52_1 x52_2) (gD.mk x53_0 x53_1 x53_2) (IntKind.i64.wrap (a5 - 1)) hx54)) ?_
             refine goY ?_
             refine kS ?_
             refine goL ?_
             refine jI (jS y49 (by omega)) ?_
             exact⟨(y49+1),x54_0,x54_1,x54_2,x54_3,x54_4,x54_5,x54_6,x54_7,h,by omega,eJ⟩
            ·have hky492:=wF c51
             rw [jF hky492,wY.eq_1] at h
             refine goX ?_
             refine jN ?_
             cases h
             exact qK
def wZ:Nat→gH→(List jD)→gG→gD→gD→Int→Option (gG)
 | 0,_,_,_,_,_,_=>none
 | n+1,x0,x1,x2,x3,x4,x5=>gEu (wZ n) x0 x1 x2 x3 x4 x5
theorem gSa:∀(n:Nat) (x0:gH) (x1:List jD) (x2:gG) (x3:gD) (x4:gD) (x5:Int) {r:gG},wZ n x0 x1 x2 x3 x4 x5=some r→jB Tryz.prog 38 [.d (kT x0),.L 4 (jT x1),.d (mE x2),.d (jP x3),.d (jP x4),.I x5] [mE r]:=by
 intro n
 induction n with
 | zero=>intro x0 x1 x2 x3 x4 x5 r h;cases h
 | succ n ih=>intro x0 x1 x2 x3 x4 x5 r h;exact gR9 ih x0 x1 x2 x3 x4 x5 h
def wS(a0:qV):List pU→(List (List UInt8))→Option (Bool)
 | [],y1=>lt_ ((cnd a0.auto ((cnd a0.assoc (true) ((cnd (decide ((a0.signatures.length:Int) > 0)) (true) ((decide ((a0.supertraits.length:Int) > 0))))))) (false))) fun b10=>
(cnd b10 (
(some false)) (
bnd ((cnd (kW a0.name) (bnd (vY a0.supertraits 4) fun x17=>
(cnd x17 (bnd (vY y1 6) fun x19=>
(some x19)) ((some false)))) ((some false)))) fun b15=>
(some b15)))
 | x6::xs,y1=>bnd (gOu x6) fun x7=>
(cnd (!x7) (
(some false)) (
gd (y1.length+[x6.name].length≤4294967296) (
wS a0 xs (y1++[x6.name]))))
def gB5(a0:qV):Option (Bool):=
wS a0 a0.signatures []
theorem gHn(a0:qV){r:Bool}(h:gB5 a0=some r):jB Tryz.prog 127 [.d (gJ3 a0)] [.b r]:=by
 obtain⟨a0_0,a0_1,a0_2,a0_3,a0_4⟩:=a0
 unfold gB5 at h
 refine SpI Tryz.func127 fun A _=>?_
 refine goL ?_
 refine gFc ?_
 refine goL ?_
 refine noB ?_
 refine vN 0 4 (fun z4=>?_)
 refine kR (fun(y3:Nat) (y1:List (List UInt8)) (v2:Nat)=>⟨[(1,.ptr 0 0),(3,.sl 1 v2),(4,.N y3)],[.box [.S a0_0,.L 1 (gZ a0_1),.B a0_2,.B a0_3,.L 16 (kU a0_4)],.own 9 1 v2 (gZ y1)],Tryz.f127.ntmps⟩) (fun y3 y1 v2=>wS (qV.mk a0_0 a0_1 a0_2 a0_3 a0_4) (a0_4.drop y3) y1=some r) (fun y3 y1 v2=>a0_4.length - y3) 0 [] 0 eJ h ?_
 rintro y3 y1 v2 h
 refine goL ?_
 refine mO (fun c5=>?_) (fun c5=>?_)
 ·have hky32:=wE c5
  obtain⟨x6,hx6,hdx6⟩:=drop_at hky32
  rw [hdx6,wS.eq_2] at h
  obtain⟨x6_0,x6_1,⟨x6_2_0,x6_2_1,x6_2_2⟩,x6_3,x6_4,⟨x6_5_0,x6_5_1,x6_5_2,x6_5_3,⟨x6_5_4_0,x6_5_4_1,x6_5_4_2⟩,x6_5_5,x6_5_6⟩⟩:=x6
  refine noS ?_
  refine kI (jE ?_)
  refine goL ?_
  refine jI (jJ y3 (gKq hx6)) ?_
  obtain⟨x7,hx7,h⟩:=gK h
  refine jI (gF (gZp (pU.mk x6_0 x6_1 (gD.mk x6_2_0 x6_2_1 x6_2_2) x6_3 x6_4 (jM.mk x6_5_0 x6_5_1 x6_5_2 x6_5_3 (gD.mk x6_5_4_0 x6_5_4_1 x6_5_4_2) x6_5_5 x6_5_6)) hx7)) ?_
  refine mO (fun c8=>?_) (fun c8=>?_)
  ·replace h:=gX c8 h
   exact goR h
  ·replace h:=gY c8 h
   refine goS ?_
   refine jI (jJ y3 (gKq hx6)) ?_
   refine gA7 x6_0 ?_
   obtain⟨g9,h⟩:=mZ h
   refine gGg g9 ?_
   refine goL ?_
   refine jI (jS y3 (by omega)) ?_
   exact⟨(y3+1),(y1++[x6_0]),(v2+1),h,by omega,eJ⟩
 ·have hky32:=wF c5
  rw [jF hky32,wS.eq_1] at h
  refine goX ?_
  obtain⟨b10,hb10,h⟩:=qR h
  refine jU ⟨[(1,.ptr 0 0),(3,.sl 1 v2),(46,.B b10)],[.box [.S a0_0,.L 1 (gZ a0_1),.B a0_2,.B a0_3,.L 16 (kU a0_4)],.own 9 1 v2 (gZ y1)],Tryz.f127.ntmps⟩ ?_ ?_
  ·refine gN 31 (fun c11=>?_) (fun c11=>?_)
   ·replace hb10:=gX c11 hb10
    refine goL ?_
    refine gN 34 (fun c12=>?_) (fun c12=>?_)
    ·replace hb10:=gX c12 hb10
     refine goL ?_
     cases hb10
     exact eJ
    ·replace hb10:=gY c12 hb10
     refine goL ?_
     refine gN 40 (fun c13=>?_) (fun c13=>?_)
     ·replace hb10:=gX c13 hb10
      refine goL ?_
      cases hb10
      exact eJ
     ·replace hb10:=gY c13 hb10
      refine goL ?_
      cases hb10
      exact eJ
   ·replace hb10:=gY c11 hb10
    refine goL ?_
    cases hb10
    exact eJ
  refine goC h ?_ ?_<;>intro c14 h
  ·exact goR h
  ·refine goS ?_
   refine jI (gF (pK a0_0)) ?_
   obtain⟨b15,hb15,h⟩:=gK h
   refine jU ⟨[(2,.B b15)],[.box [.S a0_0,.L 1 (gZ a0_1),.B a0_2,.B a0_3,.L 16 (kU a0_4)],.own 9 1 v2 (gZ y1)],Tryz.f127.ntmps⟩ ?_ ?_
   ·refine gN 50 (fun c16=>?_) (fun c16=>?_)
    ·replace hb15:=gX c16 hb15
     refine goL ?_
     refine uD ?_
     obtain⟨x17,hx17,hb15⟩:=gK hb15
     refine jI (gF (yL a0_1 4 hx17)) ?_
     refine gN 55 (fun c18=>?_) (fun c18=>?_)
     ·replace hb15:=gX c18 hb15
      refine goL ?_
      refine uD ?_
      obtain⟨x19,hx19,hb15⟩:=gK hb15
      refine gFl (gSj (yL y1 6 hx19)) ?_
      cases hb15
      exact eJ
     ·replace hb15:=gY c18 hb15
      refine goL ?_
      cases hb15
      exact eJ
    ·replace hb15:=gY c16 hb15
     refine goL ?_
     cases hb15
     exact eJ
   exact goR h
def uP(a0:gB)(x1:gB)(x3:List (List UInt8)):List gB→(List pO)→Option (kY × Bool)
 | [],y5=>bnd (bnd (pW a0) fun x16=>
(cnd (!x16) ((some true)) ((cnd ((a0.list.length:Int)==0) ((some true)) (bnd (gB4 (kY.mk x1.atom x3 y5)) fun x19=>
bnd (gAt 5000 x19 a0) fun x20=>
(some (!x20))))))) fun b15=>
(cnd b15 (
(some ((kY.mk [] [] []),false))) (
(some ((kY.mk x1.atom x3 y5),true))))
 | x10::xs,y5=>bnd (pX x10 0) fun x11=>
bnd (gGa x10 1) fun x12=>
bnd (gLz x12) fun x13=>
gd (y5.length+[(pO.mk x11.atom x13)].length≤4294967296) (
uP a0 x1 x3 xs (y5++[(pO.mk x11.atom x13)]))
def gB6(a0:gB):Option (kY × Bool):=
bnd (pX a0 1) fun x1=>
bnd (pX a0 2) fun x2=>
bnd (gAw x2) fun x3=>
bnd (gGa a0 3) fun x4=>
uP a0 x1 x3 x4 []
theorem gJn(a0:gB){r:kY × Bool}(h:gB6 a0=some r):jB Tryz.prog 97 [.d (mF a0)] [gDo r.1,.b r.2]:=by
 obtain⟨a0_0,a0_1⟩:=a0
 unfold gB6 at h
 refine SpI Tryz.func97 fun A _=>?_
 refine gHk ?_
 refine jL (P:=Tryz.prog) Mix.h [(0,true),(1,true),(2,true),(3,true),(4,true),(5,true),(6,true),(7,false),(8,false)] (by kernel_rfl) ?_
 refine goY ?_
 obtain⟨⟨x1_0,x1_1⟩,hx1,h⟩:=gK h
 refine jC rfl (gF (qH (gB.mk a0_0 a0_1) 1 hx1)) ?_
 refine jC rfl (gFv) ?_
 refine goY ?_
 obtain⟨⟨x2_0,x2_1⟩,hx2,h⟩:=gK h
 refine jC rfl (gF (qH (gB.mk a0_0 a0_1) 2 hx2)) ?_
 obtain⟨x3,hx3,h⟩:=gK h
 refine jC rfl (gF (gCt (gB.mk x2_0 x2_1) hx3)) ?_
 refine goY ?_
 refine kS ?_
 refine goL ?_
 obtain⟨x4,hx4,h⟩:=gK h
 refine jI (gF (gJw (gB.mk a0_0 a0_1) 3 hx4)) ?_
 refine noB ?_
 refine yJ 199 2 2 2 rfl rfl (by repeat constructor) (by repeat constructor) (by repeat constructor) (by repeat constructor) ?_
 show V _ _ _ _ _
 refine gFj 5 (fun z8=>?_)
 refine kR (fun(y7:Nat) (y5:List pO) (v6:Nat)=>⟨[(1,.ptr 0 0),(2,.ptr 1 0),(4,.ptr 2 0),(5,.L 2 (gM x4)),(6,.N y7)],[.box [.S a0_0,.L 2 (gM a0_1)],.box [.S [],.nilsl,.nilsl],.box [.S x1_0,.L 1 (gZ x3),.sl 3 v6],.arr 199 2 v6 (mV y5)],Tryz.f97.ntmps⟩) (fun y7 y5 v6=>uP (gB.mk a0_0 a0_1) (gB.mk x1_0 x1_1) x3 (x4.drop y7) y5=some r) (fun y7 y5 v6=>x4.length - y7) 0 [] 0 eJ h ?_
 rintro y7 y5 v6 h
 refine goL ?_
 refine mO (fun c9=>?_) (fun c9=>?_)
 ·have hky72:=wE c9
  obtain⟨x10,hx10,hdx10⟩:=drop_at hky72
  rw [hdx10,uP.eq_2] at h
  obtain⟨x10_0,x10_1⟩:=x10
  refine noS ?_
  refine kI (jE ?_)
  refine uX (P:=Tryz.prog) Mix.h [(0,true),(1,true),(2,true),(3,true),(4,true),(5,true),(6,true),(7,true),(8,true),(9,true),(10,true),(11,true),(12,true),(13,true),(14,true),(15,false),(16,false),(17,true),(18,false)] (by kernel_rfl) ?_
  refine goY ?_
  refine jC rfl (jJ y7 (qO hx10)) ?_
  refine goY ?_
  obtain⟨⟨x11_0,x11_1⟩,hx11,h⟩:=gK h
  refine jC rfl (gF (qH (gB.mk x10_0 x10_1) 0 hx11)) ?_
  refine jC rfl (gFv) ?_
  refine goY ?_
  refine jC rfl (jJ y7 (qO hx10)) ?_
  refine goY ?_
  obtain⟨x12,hx12,h⟩:=gK h
  refine jC rfl (gF (gJw (gB.mk x10_0 x10_1) 1 hx12)) ?_
  obtain⟨x13,hx13,h⟩:=gK h
  refine jC rfl (gF (gUh x12 hx13)) ?_
  refine goY ?_
  refine pY (T:=154) (us:=mV [(pO.mk x11_0 x13)]) ?_
  obtain⟨g14,h⟩:=mZ h
  refine pV (T:=154) g14 ?_
  refine goY ?_
  refine kS ?_
  refine goL ?_
  refine jI (jS y7 (by omega)) ?_
  exact⟨(y7+1),(y5++[(pO.mk x11_0 x13)]),(v6+1),h,by omega,eJ⟩
 ·have hky72:=wF c9
  rw [jF hky72,uP.eq_1] at h
  refine noX ?_
  refine gHk ?_
  refine kK 3 rfl rfl ?_
  obtain⟨b15,hb15,h⟩:=gK h
  refine qZ (P:=Tryz.prog) Mix.h ⟨[(2,.ptr 1 0),(4,.ptr 2 0),(55,.B b15)],[.box [.S a0_0,.L 2 (gM a0_1)],.box [.S [],.nilsl,.nilsl],.box [.S x1_0,.L 1 (gZ x3),.sl 3 v6],.frz 199 2 v6 (mV y5)],Tryz.f97.ntmps⟩ (by kernel_rfl) ?_ ?_
  ·refine goL ?_
   obtain⟨x16,hx16,hb15⟩:=gK hb15
   refine gDm (gF (wG (gB.mk a0_0 a0_1) hx16)) ?_
   refine goL ?_
   refine vR 43 (fun c17=>?_) (fun c17=>?_)
   ·replace hb15:=gX c17 hb15
    refine goL ?_
    cases hb15
    exact eJ
   ·replace hb15:=gY c17 hb15
    refine goL ?_
    refine vR 49 (fun c18=>?_) (fun c18=>?_)
    ·replace hb15:=gX c18 hb15
     refine goL ?_
     cases hb15
     exact eJ
    ·replace hb15:=gY c18 hb15
     refine goL ?_
     obtain⟨⟨x19_0,x19_1⟩,hx19,hb15⟩:=gK hb15
     refine hAu (gXe (gJm (kY.mk x1_0 x3 y5) hx19)) ?_
     refine goL ?_
     obtain⟨x20,hx20,hb15⟩:=gK hb15
     refine gBe (gF (gEa 5000 (gB.mk x19_0 x19_1) (gB.mk a0_0 a0_1) hx20)) ?_
     refine goL ?_
     cases hb15
     exact eJ
  refine goC h ?_ ?_<;>intro c21 h
  ·refine goL ?_
   refine gA6 (kD TBd.h TZ.h rfl (by repeat constructor)) ?_
   exact goR h
  ·refine goS ?_
   refine jN ?_
   cases h
   exact qK
end Go.Proofs.YtfaplndgbgoaaaaGreatDoor
