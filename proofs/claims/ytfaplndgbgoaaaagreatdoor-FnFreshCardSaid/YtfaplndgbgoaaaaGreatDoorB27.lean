import Derived.Test.YtfaplndgbgoaaaaGreatDoorEng38
import Derived.Test.YtfaplndgbgoaaaaGreatDoorEng67
import Derived.Test.YtfaplndgbgoaaaaGreatDoorSfi0
import Derived.Test.YtfaplndgbgoaaaaGreatDoorB19
import Derived.Test.YtfaplndgbgoaaaaGreatDoorVr
import Derived.Test.YtfaplndgbgoaaaaGreatDoorCur
import Derived.Test.YtfaplndgbgoaaaaGreatDoorB14
import Derived.Test.YtfaplndgbgoaaaaGreatDoorPar
import Derived.Test.YtfaplndgbgoaaaaGreatDoorB7
set_option maxHeartbeats 4000000
set_option linter.unusedVariables false
set_option linter.unusedSimpArgs false
set_option linter.unusedSectionVars false
namespace Go.Proofs.YtfaplndgbgoaaaaGreatDoor
open Go Go.Eng
attribute [local irreducible] V VO VQ VY Quiet QR jB kX Rng uJ uY qW
def gBt(a1:gH)(a2:List jD)(x2:Int × jA):Nat→(List UInt8)→Int→Int→Int→Int→Int→(List gI)→(List kE)→(List kH)→Int→Int→Int→Option (gG × jA)
 | 0,y3,y4,y5,y6,y7,y8,y9,y10,y11,y12,y13,y14=>none
 | n15+1,y3,y4,y5,y6,y7,y8,y9,y10,y11,y12,y13,y14=>(cnd (decide (y14 < x2.1)) (
bnd (gH9 5000 (jA.mk y3 y4 y5) 2) fun x17=>
bnd (gH9 5000 x17.2 2) fun x18=>
bnd (zS a1 a2 (gG.mk y6 y7 y8 y9 y10 y11 y12 y13) x17.1 x18.1) fun x19=>
(cnd (x19.code==0) (
gBt a1 a2 x2 n15 x18.2.b x18.2.i x18.2.h x19.next x19.count x19.node x19.bindings x19.equations x19.obligations x19.code x19.at_ (IntKind.i64.wrap (y14+1))) (
bnd (gCm x18.2 12) fun x21=>
(cnd x21.1 (
gBt a1 a2 x2 n15 x21.2.b x21.2.i x21.2.h x19.next x19.count x19.node x19.bindings x19.equations x19.obligations x19.code x19.at_ (IntKind.i64.wrap (y14+1))) (
gBt a1 a2 x2 n15 x21.2.b x21.2.i x21.2.h y6 y7 y8 y9 y10 y11 y12 y13 (IntKind.i64.wrap (y14+1))))))) (
(some ((gG.mk y6 y7 y8 y9 y10 y11 y12 y13),(jA.mk y3 y4 y5)))))
def gO2(c:jA)(a1:gH)(a2:List jD)(n0:Nat):Option (gG × jA):=
bnd (yQ c 5) fun x1=>
bnd (yQ x1.2 4) fun x2=>
gBt a1 a2 x2 n0 x2.2.b x2.2.i x2.2.h 4 0 x1.1 [] [] [] 0 0 0
theorem hDd(c:jA)(a1:gH)(a2:List jD){n0:Nat}{r:gG × jA}(h:gO2 c a1 a2 n0=some r):Go.Eng.Spec Tryz.prog 11 [.ptr 0 0,.d (kT a1),.L 4 (jT a2)] [.box [.L 1 (kQ c.b),.I c.i,.I c.h]] (fun sv Lo=>sv=.d (mE r.1)∧Lo=[.box [.L 1 (kQ r.2.b),.I r.2.i,.I r.2.h]]):=by
 obtain⟨c_0,c_1,c_2⟩:=c
 obtain⟨a1_0⟩:=a1
 unfold gO2 at h
 refine mP 1 Tryz.func11 rfl (by kernel_rfl) rfl rfl fun A _=>?_
 refine goL ?_
 obtain⟨⟨x1_0,⟨x1_1_0,x1_1_1,x1_1_2⟩⟩,hx1,h⟩:=gK h
 refine zI 0 (gCk (jA.mk c_0 c_1 c_2) 5 hx1) ?_
 refine gFl (kD TBd.h TZ.h rfl (by repeat constructor)) ?_
 obtain⟨⟨x2_0,⟨x2_1_0,x2_1_1,x2_1_2⟩⟩,hx2,h⟩:=gK h
 refine zI 0 (gCk (jA.mk x1_1_0 x1_1_1 x1_1_2) 4 hx2) ?_
 refine goL ?_
 refine noB ?_
 refine gQ6 4 3 3 rfl rfl (by repeat constructor) (by repeat constructor) ?_
 show V _ _ _ _ _
 refine gQ6 7 3 4 rfl rfl (by repeat constructor) (by repeat constructor) ?_
 show V _ _ _ _ _
 refine gQ6 5 3 5 rfl rfl (by repeat constructor) (by repeat constructor) ?_
 show V _ _ _ _ _
 refine hA6 (fun(n15:Nat) (y3:List UInt8) (y4:Int) (y5:Int) (y6:Int) (y7:Int) (y8:Int) (y9:List gI) (y10:List kE) (y11:List kH) (y12:Int) (y13:Int) (y14:Int)=>⟨[(0,.ptr 0 0),(2,.L 4 (jT a2)),(4,.ptr 1 0),(6,.ptr 2 0),(7,.ptr 3 0),(8,.I x2_0),(9,.I y14)],[.box [.L 1 (kQ y3),.I y4,.I y5],.box [.L 6 (kN a1_0)],.box [.I 0,.I 0,.I 0,.nilsl,.nilsl,.nilsl,.I 0,.I 0],.box [.I y6,.I y7,.I y8,.L 4 (gQ y9),.L 7 (jY y10),.L 5 (jR y11),.I y12,.I y13]],Tryz.f11.ntmps⟩) (fun n15 y3 y4 y5 y6 y7 y8 y9 y10 y11 y12 y13 y14=>gBt (gH.mk a1_0) a2 (x2_0,(jA.mk x2_1_0 x2_1_1 x2_1_2)) n15 y3 y4 y5 y6 y7 y8 y9 y10 y11 y12 y13 y14=some r) (fun n15 y3 y4 y5 y6 y7 y8 y9 y10 y11 y12 y13 y14=>n15) n0 x2_1_0 x2_1_1 x2_1_2 4 0 x1_0 [] [] [] 0 0 0 eJ h ?_
 rintro n15 y3 y4 y5 y6 y7 y8 y9 y10 y11 y12 y13 y14 h
 rcases n15 with _ | n15
 ·cases h
 rw [gBt.eq_2] at h
 refine goC h ?_ ?_<;>intro c16 h
 ·refine noS ?_
  refine kI (jE ?_)
  obtain⟨⟨⟨x17_0_0,x17_0_1,x17_0_2⟩,⟨x17_1_0,x17_1_1,x17_1_2⟩⟩,hx17,h⟩:=gK h
  obtain⟨⟨⟨x18_0_0,x18_0_1,x18_0_2⟩,⟨x18_1_0,x18_1_1,x18_1_2⟩⟩,hx18,h⟩:=gK h
  obtain⟨⟨x19_0,x19_1,x19_2,x19_3,x19_4,x19_5,x19_6,x19_7⟩,hx19,h⟩:=gK h
  refine uZ (P:=Tryz.prog) Mix.h (.q 1 (.q 3 (.q 5 (.h 0 (.h 2 (.h 4 (.h 6 (.q 7 (.h 8 (.h 9 .nil .nil) .nil)) (.h 8 (.h 6 (.q 7 (.h 9 .nil .nil)) .nil) .nil)) (.h 8 (.h 4 (.h 6 (.q 7 (.h 9 .nil .nil)) .nil) .nil) .nil)) (.h 4 (.h 2 (.h 6 (.q 7 (.h 8 (.h 9 .nil .nil) .nil)) (.h 8 (.h 6 (.q 7 (.h 9 .nil .nil)) .nil) .nil)) (.h 6 (.h 2 (.q 7 (.h 8 (.h 9 .nil .nil) .nil)) (.h 8 (.h 2 (.q 7 (.h 9 .nil .nil)) .nil) .nil)) (.h 8 (.h 2 (.h 6 (.q 7 (.h 9 .nil .nil)) .nil) (.h 6 (.h 2 (.q 7 (.h 9 .nil .nil)) .nil) .nil)) .nil))) (.h 8 (.h 2 (.h 4 (.h 6 (.q 7 (.h 9 .nil .nil)) .nil) .nil) (.h 4 (.h 2 (.h 6 (.q 7 (.h 9 .nil .nil)) .nil) (.h 6 (.h 2 (.q 7 (.h 9 .nil .nil)) .nil) .nil)) .nil)) .nil))) (.h 2 (.h 0 (.h 4 (.h 6 (.q 7 (.h 8 (.h 9 .nil .nil) .nil)) (.h 8 (.h 6 (.q 7 (.h 9 .nil .nil)) .nil) .nil)) (.h 8 (.h 4 (.h 6 (.q 7 (.h 9 .nil .nil)) .nil) .nil) .nil)) (.h 4 (.h 0 (.h 6 (.q 7 (.h 8 (.h 9 .nil .nil) .nil)) (.h 8 (.h 6 (.q 7 (.h 9 .nil .nil)) .nil) .nil)) (.h 6 (.h 0 (.q 7 (.h 8 (.h 9 .nil .nil) .nil)) (.h 8 (.h 0 (.q 7 (.h 9 .nil .nil)) .nil) .nil)) (.h 8 (.h 0 (.h 6 (.q 7 (.h 9 .nil .nil)) .nil) (.h 6 (.h 0 (.q 7 (.h 9 .nil .nil)) .nil) .nil)) .nil))) (.h 8 (.h 0 (.h 4 (.h 6 (.q 7 (.h 9 .nil .nil)) .nil) .nil) (.h 4 (.h 0 (.h 6 (.q 7 (.h 9 .nil .nil)) .nil) (.h 6 (.h 0 (.q 7 (.h 9 .nil .nil)) .nil) .nil)) .nil)) .nil))) (.h 4 (.h 0 (.h 2 (.h 6 (.q 7 (.h 8 (.h 9 .nil .nil) .nil)) (.h 8 (.h 6 (.q 7 (.h 9 .nil .nil)) .nil) .nil)) (.h 6 (.h 2 (.q 7 (.h 8 (.h 9 .nil .nil) .nil)) (.h 8 (.h 2 (.q 7 (.h 9 .nil .nil)) .nil) .nil)) (.h 8 (.h 2 (.h 6 (.q 7 (.h 9 .nil .nil)) .nil) (.h 6 (.h 2 (.q 7 (.h 9 .nil .nil)) .nil) .nil)) .nil))) (.h 2 (.h 0 (.h 6 (.q 7 (.h 8 (.h 9 .nil .nil) .nil)) (.h 8 (.h 6 (.q 7 (.h 9 .nil .nil)) .nil) .nil)) (.h 6 (.h 0 (.q 7 (.h 8 (.h 9 .nil .nil) .nil)) (.h 8 (.h 0 (.q 7 (.h 9 .nil .nil)) .nil) .nil)) (.h 8 (.h 0 (.h 6 (.q 7 (.h 9 .nil .nil)) .nil) (.h 6 (.h 0 (.q 7 (.h 9 .nil .nil)) .nil) .nil)) .nil))) (.h 6 (.h 0 (.h 2 (.q 7 (.h 8 (.h 9 .nil .nil) .nil)) (.h 8 (.h 2 (.q 7 (.h 9 .nil .nil)) .nil) .nil)) (.h 2 (.h 0 (.q 7 (.h 8 (.h 9 .nil .nil) .nil)) (.h 8 (.h 0 (.q 7 (.h 9 .nil .nil)) .nil) .nil)) (.h 8 (.h 0 (.h 2 (.q 7 (.h 9 .nil .nil)) .nil) (.h 2 (.h 0 (.q 7 (.h 9 .nil .nil)) .nil) .nil)) .nil))) (.h 8 (.h 0 (.h 2 (.h 6 (.q 7 (.h 9 .nil .nil)) .nil) (.h 6 (.h 2 (.q 7 (.h 9 .nil .nil)) .nil) .nil)) (.h 2 (.h 0 (.h 6 (.q 7 (.h 9 .nil .nil)) .nil) (.h 6 (.h 0 (.q 7 (.h 9 .nil .nil)) .nil) .nil)) (.h 6 (.h 0 (.h 2 (.q 7 (.h 9 .nil .nil)) .nil) (.h 2 (.h 0 (.q 7 (.h 9 .nil .nil)) .nil) .nil)) .nil))) .nil)))) (.h 8 (.h 0 (.h 2 (.h 4 (.h 6 (.q 7 (.h 9 .nil .nil)) .nil) .nil) (.h 4 (.h 2 (.h 6 (.q 7 (.h 9 .nil .nil)) .nil) (.h 6 (.h 2 (.q 7 (.h 9 .nil .nil)) .nil) .nil)) .nil)) (.h 2 (.h 0 (.h 4 (.h 6 (.q 7 (.h 9 .nil .nil)) .nil) .nil) (.h 4 (.h 0 (.h 6 (.q 7 (.h 9 .nil .nil)) .nil) (.h 6 (.h 0 (.q 7 (.h 9 .nil .nil)) .nil) .nil)) .nil)) (.h 4 (.h 0 (.h 2 (.h 6 (.q 7 (.h 9 .nil .nil)) .nil) (.h 6 (.h 2 (.q 7 (.h 9 .nil .nil)) .nil) .nil)) (.h 2 (.h 0 (.h 6 (.q 7 (.h 9 .nil .nil)) .nil) (.h 6 (.h 0 (.q 7 (.h 9 .nil .nil)) .nil) .nil)) (.h 6 (.h 0 (.h 2 (.q 7 (.h 9 .nil .nil)) .nil) (.h 2 (.h 0 (.q 7 (.h 9 .nil .nil)) .nil) .nil)) .nil))) .nil))) .nil))))))) ⟨[(0,.ptr 0 0),(2,.L 4 (jT a2)),(4,.ptr 1 0),(6,.ptr 2 0),(7,.ptr 3 0),(8,.I x2_0),(9,.I y14),(10,.ptr 4 0)],[.box [.L 1 (kQ x18_1_0),.I x18_1_1,.I x18_1_2],.box [.L 6 (kN a1_0)],.box [.I 0,.I 0,.I 0,.nilsl,.nilsl,.nilsl,.I 0,.I 0],.box [.I y6,.I y7,.I y8,.L 4 (gQ y9),.L 7 (jY y10),.L 5 (jR y11),.I y12,.I y13],.box [.I x19_0,.I x19_1,.I x19_2,.L 4 (gQ x19_3),.L 7 (jY x19_4),.L 5 (jR x19_5),.I x19_6,.I x19_7]],Tryz.f11.ntmps⟩ (by kernel_rfl) ?_ ?_
  ·refine goT ?_
   refine wQ (mU jQ) ?_ ?_
   ·refine wQ (mU jQ) ?_ ?_
    ·refine wQ (qG 0 (kJ 5000 (jA.mk y3 y4 y5) 2 hx17) jQ) ?_ ?_
     ·refine wQ (qG 0 (kJ 5000 (jA.mk x17_1_0 x17_1_1 x17_1_2) 2 hx18) jQ) ?_ ?_
      ·refine zW (jC rfl (gF (gW (gH.mk a1_0) a2 (gG.mk y6 y7 y8 y9 y10 y11 y12 y13) (gD.mk x17_0_0 x17_0_1 x17_0_2) (gD.mk x18_0_0 x18_0_1 x18_0_2) hx19)) jQ) ?_
       refine goT ?_
       refine jW ?_
       exact vG 1 [0,1,2,3,4]
      refine goT ?_
      refine jO (qG 0 (kJ 5000 (jA.mk x17_1_0 x17_1_1 x17_1_2) 2 hx18) jQ) ?_
      refine zW (jC rfl (gF (gW (gH.mk a1_0) a2 (gG.mk y6 y7 y8 y9 y10 y11 y12 y13) (gD.mk x17_0_0 x17_0_1 x17_0_2) (gD.mk x18_0_0 x18_0_1 x18_0_2) hx19)) jQ) ?_
      refine goT ?_
      refine jW ?_
      exact vG 1 [0,1,2,3,4]
     refine goT ?_
     refine jO (qG 0 (kJ 5000 (jA.mk y3 y4 y5) 2 hx17) jQ) ?_
     refine jO (qG 0 (kJ 5000 (jA.mk x17_1_0 x17_1_1 x17_1_2) 2 hx18) jQ) ?_
     refine zW (jC rfl (gF (gW (gH.mk a1_0) a2 (gG.mk y6 y7 y8 y9 y10 y11 y12 y13) (gD.mk x17_0_0 x17_0_1 x17_0_2) (gD.mk x18_0_0 x18_0_1 x18_0_2) hx19)) jQ) ?_
     refine goT ?_
     refine jW ?_
     exact vG 1 [0,1,2,3,4]
    refine wQ (qG 0 (kJ 5000 (jA.mk y3 y4 y5) 2 hx17) jQ) ?_ ?_
    ·refine wQ (mU jQ) ?_ ?_
     ·refine wQ (qG 0 (kJ 5000 (jA.mk x17_1_0 x17_1_1 x17_1_2) 2 hx18) jQ) ?_ ?_
      ·refine zW (jC rfl (gF (gW (gH.mk a1_0) a2 (gG.mk y6 y7 y8 y9 y10 y11 y12 y13) (gD.mk x17_0_0 x17_0_1 x17_0_2) (gD.mk x18_0_0 x18_0_1 x18_0_2) hx19)) jQ) ?_
       refine goT ?_
       refine jW ?_
       exact vG 1 [0,1,2,3,4]
      refine goT ?_
      refine jO (qG 0 (kJ 5000 (jA.mk x17_1_0 x17_1_1 x17_1_2) 2 hx18) jQ) ?_
      refine zW (jC rfl (gF (gW (gH.mk a1_0) a2 (gG.mk y6 y7 y8 y9 y10 y11 y12 y13) (gD.mk x17_0_0 x17_0_1 x17_0_2) (gD.mk x18_0_0 x18_0_1 x18_0_2) hx19)) jQ) ?_
      refine goT ?_
      refine jW ?_
      exact vG 1 [0,1,2,3,4]
     refine wQ (qG 0 (kJ 5000 (jA.mk x17_1_0 x17_1_1 x17_1_2) 2 hx18) jQ) ?_ ?_
     ·refine wQ (mU jQ) ?_ ?_
      ·refine zW (jC rfl (gF (gW (gH.mk a1_0) a2 (gG.mk y6 y7 y8 y9 y10 y11 y12 y13) (gD.mk x17_0_0 x17_0_1 x17_0_2) (gD.mk x18_0_0 x18_0_1 x18_0_2) hx19)) jQ) ?_
       refine goT ?_
       refine jW ?_
       exact vG 1 [0,1,2,3,4]
      refine goT ?_
      refine jO (mU jQ) ?_
      refine zW (jC rfl (gF (gW (gH.mk a1_0) a2 (gG.mk y6 y7 y8 y9 y10 y11 y12 y13) (gD.mk x17_0_0 x17_0_1 x17_0_2) (gD.mk x18_0_0 x18_0_1 x18_0_2) hx19)) jQ) ?_
      refine goT ?_
      refine jW ?_
      exact vG 1 [0,1,2,3,4]
     refine goT ?_
     refine wQ (mU jQ) ?_ ?_
     ·refine jO (qG 0 (kJ 5000 (jA.mk x17_1_0 x17_1_1 x17_1_2) 2 hx18) jQ) ?_
      refine zW (jC rfl (gF (gW (gH.mk a1_0) a2 (gG.mk y6 y7 y8 y9 y10 y11 y12 y13) (gD.mk x17_0_0 x17_0_1 x17_0_2) (gD.mk x18_0_0 x18_0_1 x18_0_2) hx19)) jQ) ?_
      refine goT ?_
      refine jW ?_
      exact vG 1 [0,1,2,3,4]
     refine jO (qG 0 (kJ 5000 (jA.mk x17_1_0 x17_1_1 x17_1_2) 2 hx18) jQ) ?_
     refine jO (mU jQ) ?_
     refine zW (jC rfl (gF (gW (gH.mk a1_0) a2 (gG.mk y6 y7 y8 y9 y10 y11 y12 y13) (gD.mk x17_0_0 x17_0_1 x17_0_2) (gD.mk x18_0_0 x18_0_1 x18_0_2) hx19)) jQ) ?_
     refine goT ?_
     refine jW ?_
     exact vG 1 [0,1,2,3,4]
    refine goT ?_
    refine wQ (mU jQ) ?_ ?_
    ·refine jO (qG 0 (kJ 5000 (jA.mk y3 y4 y5) 2 hx17) jQ) ?_
     refine jO (qG 0 (kJ 5000 (jA.mk x17_1_0 x17_1_1 x17_1_2) 2 hx18) jQ) ?_
     refine zW (jC rfl (gF (gW (gH.mk a1_0) a2 (gG.mk y6 y7 y8 y9 y10 y11 y12 y13) (gD.mk x17_0_0 x17_0_1 x17_0_2) (gD.mk x18_0_0 x18_0_1 x18_0_2) hx19)) jQ) ?_
     refine goT ?_
     refine jW ?_
     exact vG 1 [0,1,2,3,4]
    refine jO (qG 0 (kJ 5000 (jA.mk y3 y4 y5) 2 hx17) jQ) ?_
    refine wQ (mU jQ) ?_ ?_
    ·refine jO (qG 0 (kJ 5000 (jA.mk x17_1_0 x17_1_1 x17_1_2) 2 hx18) jQ) ?_
     refine zW (jC rfl (gF (gW (gH.mk a1_0) a2 (gG.mk y6 y7 y8 y9 y10 y11 y12 y13) (gD.mk x17_0_0 x17_0_1 x17_0_2) (gD.mk x18_0_0 x18_0_1 x18_0_2) hx19)) jQ) ?_
     refine goT ?_
     refine jW ?_
     exact vG 1 [0,1,2,3,4]
    refine jO (qG 0 (kJ 5000 (jA.mk x17_1_0 x17_1_1 x17_1_2) 2 hx18) jQ) ?_
    refine jO (mU jQ) ?_
    refine zW (jC rfl (gF (gW (gH.mk a1_0) a2 (gG.mk y6 y7 y8 y9 y10 y11 y12 y13) (gD.mk x17_0_0 x17_0_1 x17_0_2) (gD.mk x18_0_0 x18_0_1 x18_0_2) hx19)) jQ) ?_
    refine goT ?_
    refine jW ?_
    exact vG 1 [0,1,2,3,4]
   refine wQ (mU jQ) ?_ ?_
   ·refine wQ (mU jQ) ?_ ?_
    ·refine wQ (qG 0 (kJ 5000 (jA.mk y3 y4 y5) 2 hx17) jQ) ?_ ?_
     ·refine wQ (qG 0 (kJ 5000 (jA.mk x17_1_0 x17_1_1 x17_1_2) 2 hx18) jQ) ?_ ?_
      ·refine zW (jC rfl (gF (gW (gH.mk a1_0) a2 (gG.mk y6 y7 y8 y9 y10 y11 y12 y13) (gD.mk x17_0_0 x17_0_1 x17_0_2) (gD.mk x18_0_0 x18_0_1 x18_0_2) hx19)) jQ) ?_
       refine goT ?_
       refine jW ?_
       exact vG 1 [0,1,2,3,4]
      refine goT ?_
      refine jO (qG 0 (kJ 5000 (jA.mk x17_1_0 x17_1_1 x17_1_2) 2 hx18) jQ) ?_
      refine zW (jC rfl (gF (gW (gH.mk a1_0) a2 (gG.mk y6 y7 y8 y9 y10 y11 y12 y13) (gD.mk x17_0_0 x17_0_1 x17_0_2) (gD.mk x18_0_0 x18_0_1 x18_0_2) hx19)) jQ) ?_
      refine goT ?_
      refine jW ?_
      exact vG 1 [0,1,2,3,4]
     refine goT ?_
     refine jO (qG 0 (kJ 5000 (jA.mk y3 y4 y5) 2 hx17) jQ) ?_
     refine jO (qG 0 (kJ 5000 (jA.mk x17_1_0 x17_1_1 x17_1_2) 2 hx18) jQ) ?_
     refine zW (jC rfl (gF (gW (gH.mk a1_0) a2 (gG.mk y6 y7 y8 y9 y10 y11 y12 y13) (gD.mk x17_0_0 x17_0_1 x17_0_2) (gD.mk x18_0_0 x18_0_1 x18_0_2) hx19)) jQ) ?_
     refine goT ?_
     refine jW ?_
     exact vG 1 [0,1,2,3,4]
    refine wQ (qG 0 (kJ 5000 (jA.mk y3 y4 y5) 2 hx17) jQ) ?_ ?_
    ·refine wQ (mU jQ) ?_ ?_
     ·refine wQ (qG 0 (kJ 5000 (jA.mk x17_1_0 x17_1_1 x17_1_2) 2 hx18) jQ) ?_ ?_
      ·refine zW (jC rfl (gF (gW (gH.mk a1_0) a2 (gG.mk y6 y7 y8 y9 y10 y11 y12 y13) (gD.mk x17_0_0 x17_0_1 x17_0_2) (gD.mk x18_0_0 x18_0_1 x18_0_2) hx19)) jQ) ?_
       refine goT ?_
       refine jW ?_
       exact vG 1 [0,1,2,3,4]
      refine goT ?_
      refine jO (qG 0 (kJ 5000 (jA.mk x17_1_0 x17_1_1 x17_1_2) 2 hx18) jQ) ?_
      refine zW (jC rfl (gF (gW (gH.mk a1_0) a2 (gG.mk y6 y7 y8 y9 y10 y11 y12 y13) (gD.mk x17_0_0 x17_0_1 x17_0_2) (gD.mk x18_0_0 x18_0_1 x18_0_2) hx19)) jQ) ?_
      refine goT ?_
      refine jW ?_
      exact vG 1 [0,1,2,3,4]
     refine wQ (qG 0 (kJ 5000 (jA.mk x17_1_0 x17_1_1 x17_1_2) 2 hx18) jQ) ?_ ?_
     ·refine wQ (mU jQ) ?_ ?_
      ·refine zW (jC rfl (gF (gW (gH.mk a1_0) a2 (gG.mk y6 y7 y8 y9 y10 y11 y12 y13) (gD.mk x17_0_0 x17_0_1 x17_0_2) (gD.mk x18_0_0 x18_0_1 x18_0_2) hx19)) jQ) ?_
       refine goT ?_
       refine jW ?_
       exact vG 1 [0,1,2,3,4]
      refine goT ?_
      refine jO (mU jQ) ?_
      refine zW (jC rfl (gF (gW (gH.mk a1_0) a2 (gG.mk y6 y7 y8 y9 y10 y11 y12 y13) (gD.mk x17_0_0 x17_0_1 x17_0_2) (gD.mk x18_0_0 x18_0_1 x18_0_2) hx19)) jQ) ?_
      refine goT ?_
      refine jW ?_
      exact vG 1 [0,1,2,3,4]
     refine goT ?_
     refine wQ (mU jQ) ?_ ?_
     ·refine jO (qG 0 (kJ 5000 (jA.mk x17_1_0 x17_1_1 x17_1_2) 2 hx18) jQ) ?_
      refine zW (jC rfl (gF (gW (gH.mk a1_0) a2 (gG.mk y6 y7 y8 y9 y10 y11 y12 y13) (gD.mk x17_0_0 x17_0_1 x17_0_2) (gD.mk x18_0_0 x18_0_1 x18_0_2) hx19)) jQ) ?_
      refine goT ?_
      refine jW ?_
      exact vG 1 [0,1,2,3,4]
     refine jO (qG 0 (kJ 5000 (jA.mk x17_1_0 x17_1_1 x17_1_2) 2 hx18) jQ) ?_
     refine jO (mU jQ) ?_
     refine zW (jC rfl (gF (gW (gH.mk a1_0) a2 (gG.mk y6 y7 y8 y9 y10 y11 y12 y13) (gD.mk x17_0_0 x17_0_1 x17_0_2) (gD.mk x18_0_0 x18_0_1 x18_0_2) hx19)) jQ) ?_
     refine goT ?_
     refine jW ?_
     exact vG 1 [0,1,2,3,4]
    refine goT ?_
    refine wQ (mU jQ) ?_ ?_
    ·refine jO (qG 0 (kJ 5000 (jA.mk y3 y4 y5) 2 hx17) jQ) ?_
     refine jO (qG 0 (kJ 5000 (jA.mk x17_1_0 x17_1_1 x17_1_2) 2 hx18) jQ) ?_
     refine zW (jC rfl (gF (gW (gH.mk a1_0) a2 (gG.mk y6 y7 y8 y9 y10 y11 y12 y13) (gD.mk x17_0_0 x17_0_1 x17_0_2) (gD.mk x18_0_0 x18_0_1 x18_0_2) hx19)) jQ) ?_
     refine goT ?_
     refine jW ?_
     exact vG 1 [0,1,2,3,4]
    refine jO (qG 0 (kJ 5000 (jA.mk y3 y4 y5) 2 hx17) jQ) ?_
    refine wQ (mU jQ) ?_ ?_
    ·refine jO (qG 0 (kJ 5000 (jA.mk x17_1_0 x17_1_1 x17_1_2) 2 hx18) jQ) ?_
     refine zW (jC rfl (gF (gW (gH.mk a1_0) a2 (gG.mk y6 y7 y8 y9 y10 y11 y12 y13) (gD.mk x17_0_0 x17_0_1 x17_0_2) (gD.mk x18_0_0 x18_0_1 x18_0_2) hx19)) jQ) ?_
     refine goT ?_
     refine jW ?_
     exact vG 1 [0,1,2,3,4]
    refine jO (qG 0 (kJ 5000 (jA.mk x17_1_0 x17_1_1 x17_1_2) 2 hx18) jQ) ?_
    refine jO (mU jQ) ?_
    refine zW (jC rfl (gF (gW (gH.mk a1_0) a2 (gG.mk y6 y7 y8 y9 y10 y11 y12 y13) (gD.mk x17_0_0 x17_0_1 x17_0_2) (gD.mk x18_0_0 x18_0_1 x18_0_2) hx19)) jQ) ?_
    refine goT ?_
    refine jW ?_
    exact vG 1 [0,1,2,3,4]
   refine wQ (qG 0 (kJ 5000 (jA.mk y3 y4 y5) 2 hx17) jQ) ?_ ?_
   ·refine wQ (mU jQ) ?_ ?_
    ·refine wQ (mU jQ) ?_ ?_
     ·refine wQ (qG 0 (kJ 5000 (jA.mk x17_1_0 x17_1_1 x17_1_2) 2 hx18) jQ) ?_ ?_
      ·refine zW (jC rfl (gF (gW (gH.mk a1_0) a2 (gG.mk y6 y7 y8 y9 y10 y11 y12 y13) (gD.mk x17_0_0 x17_0_1 x17_0_2) (gD.mk x18_0_0 x18_0_1 x18_0_2) hx19)) jQ) ?_
       refine goT ?_
       refine jW ?_
       exact vG 1 [0,1,2,3,4]
      refine goT ?_
      refine jO (qG 0 (kJ 5000 (jA.mk x17_1_0 x17_1_1 x17_1_2) 2 hx18) jQ) ?_
      refine zW (jC rfl (gF (gW (gH.mk a1_0) a2 (gG.mk y6 y7 y8 y9 y10 y11 y12 y13) (gD.mk x17_0_0 x17_0_1 x17_0_2) (gD.mk x18_0_0 x18_0_1 x18_0_2) hx19)) jQ) ?_
      refine goT ?_
      refine jW ?_
      exact vG 1 [0,1,2,3,4]
     refine wQ (qG 0 (kJ 5000 (jA.mk x17_1_0 x17_1_1 x17_1_2) 2 hx18) jQ) ?_ ?_
     ·refine wQ (mU jQ) ?_ ?_
      ·refine zW (jC rfl (gF (gW (gH.mk a1_0) a2 (gG.mk y6 y7 y8 y9 y10 y11 y12 y13) (gD.mk x17_0_0 x17_0_1 x17_0_2) (gD.mk x18_0_0 x18_0_1 x18_0_2) hx19)) jQ) ?_
       refine goT ?_
       refine jW ?_
       exact vG 1 [0,1,2,3,4]
      refine goT ?_
      refine jO (mU jQ) ?_
      refine zW (jC rfl (gF (gW (gH.mk a1_0) a2 (gG.mk y6 y7 y8 y9 y10 y11 y12 y13) (gD.mk x17_0_0 x17_0_1 x17_0_2) (gD.mk x18_0_0 x18_0_1 x18_0_2) hx19)) jQ) ?_
      refine goT ?_
      refine jW ?_
      exact vG 1 [0,1,2,3,4]
     refine goT ?_
     refine wQ (mU jQ) ?_ ?_
     ·refine jO (qG 0 (kJ 5000 (jA.mk x17_1_0 x17_1_1 x17_1_2) 2 hx18) jQ) ?_
      refine zW (jC rfl (gF (gW (gH.mk a1_0) a2 (gG.mk y6 y7 y8 y9 y10 y11 y12 y13) (gD.mk x17_0_0 x17_0_1 x17_0_2) (gD.mk x18_0_0 x18_0_1 x18_0_2) hx19)) jQ) ?_
      refine goT ?_
      refine jW ?_
      exact vG 1 [0,1,2,3,4]
     refine jO (qG 0 (kJ 5000 (jA.mk x17_1_0 x17_1_1 x17_1_2) 2 hx18) jQ) ?_
     refine jO (mU jQ) ?_
     refine zW (jC rfl (gF (gW (gH.mk a1_0) a2 (gG.mk y6 y7 y8 y9 y10 y11 y12 y13) (gD.mk x17_0_0 x17_0_1 x17_0_2) (gD.mk x18_0_0 x18_0_1 x18_0_2) hx19)) jQ) ?_
     refine goT ?_
     refine jW ?_
     exact vG 1 [0,1,2,3,4]
    refine wQ (mU jQ) ?_ ?_
    ·refine wQ (mU jQ) ?_ ?_
     ·refine wQ (qG 0 (kJ 5000 (jA.mk x17_1_0 x17_1_1 x17_1_2) 2 hx18) jQ) ?_ ?_
      ·refine zW (jC rfl (gF (gW (gH.mk a1_0) a2 (gG.mk y6 y7 y8 y9 y10 y11 y12 y13) (gD.mk x17_0_0 x17_0_1 x17_0_2) (gD.mk x18_0_0 x18_0_1 x18_0_2) hx19)) jQ) ?_
       refine goT ?_
       refine jW ?_
       exact vG 1 [0,1,2,3,4]
      refine goT ?_
      refine jO (qG 0 (kJ 5000 (jA.mk x17_1_0 x17_1_1 x17_1_2) 2 hx18) jQ) ?_
      refine zW (jC rfl (gF (gW (gH.mk a1_0) a2 (gG.mk y6 y7 y8 y9 y10 y11 y12 y13) (gD.mk x17_0_0 x17_0_1 x17_0_2) (gD.mk x18_0_0 x18_0_1 x18_0_2) hx19)) jQ) ?_
      refine goT ?_
      refine jW ?_
      exact vG 1 [0,1,2,3,4]
     refine wQ (qG 0 (kJ 5000 (jA.mk x17_1_0 x17_1_1 x17_1_2) 2 hx18) jQ) ?_ ?_
     ·refine wQ (mU jQ) ?_ ?_
      ·refine zW (jC rfl (gF (gW (gH.mk a1_0) a2 (gG.mk y6 y7 y8 y9 y10 y11 y12 y13) (gD.mk x17_0_0 x17_0_1 x17_0_2) (gD.mk x18_0_0 x18_0_1 x18_0_2) hx19)) jQ) ?_
       refine goT ?_
       refine jW ?_
       exact vG 1 [0,1,2,3,4]
      refine goT ?_
      refine jO (mU jQ) ?_
      refine zW (jC rfl (gF (gW (gH.mk a1_0) a2 (gG.mk y6 y7 y8 y9 y10 y11 y12 y13) (gD.mk x17_0_0 x17_0_1 x17_0_2) (gD.mk x18_0_0 x18_0_1 x18_0_2) hx19)) jQ) ?_
      refine goT ?_
      refine jW ?_
      exact vG 1 [0,1,2,3,4]
     refine goT ?_
     refine wQ (mU jQ) ?_ ?_
     ·refine jO (qG 0 (kJ 5000 (jA.mk x17_1_0 x17_1_1 x17_1_2) 2 hx18) jQ) ?_
      refine zW (jC rfl (gF (gW (gH.mk a1_0) a2 (gG.mk y6 y7 y8 y9 y10 y11 y12 y13) (gD.mk x17_0_0 x17_0_1 x17_0_2) (gD.mk x18_0_0 x18_0_1 x18_0_2) hx19)) jQ) ?_
      refine goT ?_
      refine jW ?_
      exact vG 1 [0,1,2,3,4]
     refine jO (qG 0 (kJ 5000 (jA.mk x17_1_0 x17_1_1 x17_1_2) 2 hx18) jQ) ?_
     refine jO (mU jQ) ?_
     refine zW (jC rfl (gF (gW (gH.mk a1_0) a2 (gG.mk y6 y7 y8 y9 y10 y11 y12 y13) (gD.mk x17_0_0 x17_0_1 x17_0_2) (gD.mk x18_0_0 x18_0_1 x18_0_2) hx19)) jQ) ?_
     refine goT ?_
     refine jW ?_
     exact vG 1 [0,1,2,3,4]
    refine wQ (qG 0 (kJ 5000 (jA.mk x17_1_0 x17_1_1 x17_1_2) 2 hx18) jQ) ?_ ?_
    ·refine wQ (mU jQ) ?_ ?_
     ·refine wQ (mU jQ) ?_ ?_
      ·refine zW (jC rfl (gF (gW (gH.mk a1_0) a2 (gG.mk y6 y7 y8 y9 y10 y11 y12 y13) (gD.mk x17_0_0 x17_0_1 x17_0_2) (gD.mk x18_0_0 x18_0_1 x18_0_2) hx19)) jQ) ?_
       refine goT ?_
       refine jW ?_
       exact vG 1 [0,1,2,3,4]
      refine goT ?_
      refine jO (mU jQ) ?_
      refine zW (jC rfl (gF (gW (gH.mk a1_0) a2 (gG.mk y6 y7 y8 y9 y10 y11 y12 y13) (gD.mk x17_0_0 x17_0_1 x17_0_2) (gD.mk x18_0_0 x18_0_1 x18_0_2) hx19)) jQ) ?_
      refine goT ?_
      refine jW ?_
      exact vG 1 [0,1,2,3,4]
     refine wQ (mU jQ) ?_ ?_
     ·refine wQ (mU jQ) ?_ ?_
      ·refine zW (jC rfl (gF (gW (gH.mk a1_0) a2 (gG.mk y6 y7 y8 y9 y10 y11 y12 y13) (gD.mk x17_0_0 x17_0_1 x17_0_2) (gD.mk x18_0_0 x18_0_1 x18_0_2) hx19)) jQ) ?_
       refine goT ?_
       refine jW ?_
       exact vG 1 [0,1,2,3,4]
      refine goT ?_
      refine jO (mU jQ) ?_
      refine zW (jC rfl (gF (gW (gH.mk a1_0) a2 (gG.mk y6 y7 y8 y9 y10 y11 y12 y13) (gD.mk x17_0_0 x17_0_1 x17_0_2) (gD.mk x18_0_0 x18_0_1 x18_0_2) hx19)) jQ) ?_
      refine goT ?_
      refine jW ?_
      exact vG 1 [0,1,2,3,4]
     refine goT ?_
     refine wQ (mU jQ) ?_ ?_
     ·refine jO (mU jQ) ?_
      refine zW (jC rfl (gF (gW (gH.mk a1_0) a2 (gG.mk y6 y7 y8 y9 y10 y11 y12 y13) (gD.mk x17_0_0 x17_0_1 x17_0_2) (gD.mk x18_0_0 x18_0_1 x18_0_2) hx19)) jQ) ?_
      refine goT ?_
      refine jW ?_
      exact vG 1 [0,1,2,3,4]
     refine jO (mU jQ) ?_
     refine jO (mU jQ) ?_
     refine zW (jC rfl (gF (gW (gH.mk a1_0) a2 (gG.mk y6 y7 y8 y9 y10 y11 y12 y13) (gD.mk x17_0_0 x17_0_1 x17_0_2) (gD.mk x18_0_0 x18_0_1 x18_0_2) hx19)) jQ) ?_
     refine goT ?_
     refine jW ?_
     exact vG 1 [0,1,2,3,4]
    refine goT ?_
    refine wQ (mU jQ) ?_ ?_
    ·refine wQ (mU jQ) ?_ ?_
     ·refine jO (qG 0 (kJ 5000 (jA.mk x17_1_0 x17_1_1 x17_1_2) 2 hx18) jQ) ?_
      refine zW (jC rfl (gF (gW (gH.mk a1_0) a2 (gG.mk y6 y7 y8 y9 y10 y11 y12 y13) (gD.mk x17_0_0 x17_0_1 x17_0_2) (gD.mk x18_0_0 x18_0_1 x18_0_2) hx19)) jQ) ?_
      refine goT ?_
      refine jW ?_
      exact vG 1 [0,1,2,3,4]
     refine jO (qG 0 (kJ 5000 (jA.mk x17_1_0 x17_1_1 x17_1_2) 2 hx18) jQ) ?_
     refine jO (mU jQ) ?_
     refine zW (jC rfl (gF (gW (gH.mk a1_0) a2 (gG.mk y6 y7 y8 y9 y10 y11 y12 y13) (gD.mk x17_0_0 x17_0_1 x17_0_2) (gD.mk x18_0_0 x18_0_1 x18_0_2) hx19)) jQ) ?_
     refine goT ?_
     refine jW ?_
     exact vG 1 [0,1,2,3,4]
    refine wQ (mU jQ) ?_ ?_
    ·refine wQ (mU jQ) ?_ ?_
     ·refine jO (qG 0 (kJ 5000 (jA.mk x17_1_0 x17_1_1 x17_1_2) 2 hx18) jQ) ?_
      refine zW (jC rfl (gF (gW (gH.mk a1_0) a2 (gG.mk y6 y7 y8 y9 y10 y11 y12 y13) (gD.mk x17_0_0 x17_0_1 x17_0_2) (gD.mk x18_0_0 x18_0_1 x18_0_2) hx19)) jQ) ?_
      refine goT ?_
      refine jW ?_
      exact vG 1 [0,1,2,3,4]
     refine jO (qG 0 (kJ 5000 (jA.mk x17_1_0 x17_1_1 x17_1_2) 2 hx18) jQ) ?_
     refine jO (mU jQ) ?_
     refine zW (jC rfl (gF (gW (gH.mk a1_0) a2 (gG.mk y6 y7 y8 y9 y10 y11 y12 y13) (gD.mk x17_0_0 x17_0_1 x17_0_2) (gD.mk x18_0_0 x18_0_1 x18_0_2) hx19)) jQ) ?_
     refine goT ?_
     refine jW ?_
     exact vG 1 [0,1,2,3,4]
    refine jO (qG 0 (kJ 5000 (jA.mk x17_1_0 x17_1_1 x17_1_2) 2 hx18) jQ) ?_
    refine wQ (mU jQ) ?_ ?_
    ·refine jO (mU jQ) ?_
     refine zW (jC rfl (gF (gW (gH.mk a1_0) a2 (gG.mk y6 y7 y8 y9 y10 y11 y12 y13) (gD.mk x17_0_0 x17_0_1 x17_0_2) (gD.mk x18_0_0 x18_0_1 x18_0_2) hx19)) jQ) ?_
     refine goT ?_
     refine jW ?_
     exact vG 1 [0,1,2,3,4]
    refine jO (mU jQ) ?_
    refine jO (mU jQ) ?_
    refine zW (jC rfl (gF (gW (gH.mk a1_0) a2 (gG.mk y6 y7 y8 y9 y10 y11 y12 y13) (gD.mk x17_0_0 x17_0_1 x17_0_2) (gD.mk x18_0_0 x18_0_1 x18_0_2) hx19)) jQ) ?_
    refine goT ?_
    refine jW ?_
    exact vG 1 [0,1,2,3,4]
   refine goT ?_
   refine wQ (mU jQ) ?_ ?_
   ·refine wQ (mU jQ) ?_ ?_
    ·refine jO (qG 0 (kJ 5000 (jA.mk y3 y4 y5) 2 hx17) jQ) ?_
     refine jO (qG 0 (kJ 5000 (jA.mk x17_1_0 x17_1_1 x17_1_2) 2 hx18) jQ) ?_
     refine zW (jC rfl (gF (gW (gH.mk a1_0) a2 (gG.mk y6 y7 y8 y9 y10 y11 y12 y13) (gD.mk x17_0_0 x17_0_1 x17_0_2) (gD.mk x18_0_0 x18_0_1 x18_0_2) hx19)) jQ) ?_
     refine goT ?_
     refine jW ?_
     exact vG 1 [0,1,2,3,4]
    refine jO (qG 0 (kJ 5000 (jA.mk y3 y4 y5) 2 hx17) jQ) ?_
    refine wQ (mU jQ) ?_ ?_
    ·refine jO (qG 0 (kJ 5000 (jA.mk x17_1_0 x17_1_1 x17_1_2) 2 hx18) jQ) ?_
     refine zW (jC rfl (gF (gW (gH.mk a1_0) a2 (gG.mk y6 y7 y8 y9 y10 y11 y12 y13) (gD.mk x17_0_0 x17_0_1 x17_0_2) (gD.mk x18_0_0 x18_0_1 x18_0_2) hx19)) jQ) ?_
     refine goT ?_
     refine jW ?_
     exact vG 1 [0,1,2,3,4]
    refine jO (qG 0 (kJ 5000 (jA.mk x17_1_0 x17_1_1 x17_1_2) 2 hx18) jQ) ?_
    refine jO (mU jQ) ?_
    refine zW (jC rfl (gF (gW (gH.mk a1_0) a2 (gG.mk y6 y7 y8 y9 y10 y11 y12 y13) (gD.mk x17_0_0 x17_0_1 x17_0_2) (gD.mk x18_0_0 x18_0_1 x18_0_2) hx19)) jQ) ?_
    refine goT ?_
    refine jW ?_
    exact vG 1 [0,1,2,3,4]
   refine wQ (mU jQ) ?_ ?_
   ·refine wQ (mU jQ) ?_ ?_
    ·refine jO (qG 0 (kJ 5000 (jA.mk y3 y4 y5) 2 hx17) jQ) ?_
     refine jO (qG 0 (kJ 5000 (jA.mk x17_1_0 x17_1_1 x17_1_2) 2 hx18) jQ) ?_
     refine zW (jC rfl (gF (gW (gH.mk a1_0) a2 (gG.mk y6 y7 y8 y9 y10 y11 y12 y13) (gD.mk x17_0_0 x17_0_1 x17_0_2) (gD.mk x18_0_0 x18_0_1 x18_0_2) hx19)) jQ) ?_
     refine goT ?_
     refine jW ?_
     exact vG 1 [0,1,2,3,4]
    refine jO (qG 0 (kJ 5000 (jA.mk y3 y4 y5) 2 hx17) jQ) ?_
    refine wQ (mU jQ) ?_ ?_
    ·refine jO (qG 0 (kJ 5000 (jA.mk x17_1_0 x17_1_1 x17_1_2) 2 hx18) jQ) ?_
     refine zW (jC rfl (gF (gW (gH.mk a1_0) a2 (gG.mk y6 y7 y8 y9 y10 y11 y12 y13) (gD.mk x17_0_0 x17_0_1 x17_0_2) (gD.mk x18_0_0 x18_0_1 x18_0_2) hx19)) jQ) ?_
     refine goT ?_
     refine jW ?_
     exact vG 1 [0,1,2,3,4]
    refine jO (qG 0 (kJ 5000 (jA.mk x17_1_0 x17_1_1 x17_1_2) 2 hx18) jQ) ?_
    refine jO (mU jQ) ?_
    refine zW (jC rfl (gF (gW (gH.mk a1_0) a2 (gG.mk y6 y7 y8 y9 y10 y11 y12 y13) (gD.mk x17_0_0 x17_0_1 x17_0_2) (gD.mk x18_0_0 x18_0_1 x18_0_2) hx19)) jQ) ?_
    refine goT ?_
    refine jW ?_
    exact vG 1 [0,1,2,3,4]
   refine jO (qG 0 (kJ 5000 (jA.mk y3 y4 y5) 2 hx17) jQ) ?_
   refine wQ (mU jQ) ?_ ?_
   ·refine wQ (mU jQ) ?_ ?_
    ·refine jO (qG 0 (kJ 5000 (jA.mk x17_1_0 x17_1_1 x17_1_2) 2 hx18) jQ) ?_
     refine zW (jC rfl (gF (gW (gH.mk a1_0) a2 (gG.mk y6 y7 y8 y9 y10 y11 y12 y13) (gD.mk x17_0_0 x17_0_1 x17_0_2) (gD.mk x18_0_0 x18_0_1 x18_0_2) hx19)) jQ) ?_
     refine goT ?_
     refine jW ?_
     exact vG 1 [0,1,2,3,4]
    refine jO (qG 0 (kJ 5000 (jA.mk x17_1_0 x17_1_1 x17_1_2) 2 hx18) jQ) ?_
    refine jO (mU jQ) ?_
    refine zW (jC rfl (gF (gW (gH.mk a1_0) a2 (gG.mk y6 y7 y8 y9 y10 y11 y12 y13) (gD.mk x17_0_0 x17_0_1 x17_0_2) (gD.mk x18_0_0 x18_0_1 x18_0_2) hx19)) jQ) ?_
    refine goT ?_
    refine jW ?_
    exact vG 1 [0,1,2,3,4]
   refine wQ (mU jQ) ?_ ?_
   ·refine wQ (mU jQ) ?_ ?_
    ·refine jO (qG 0 (kJ 5000 (jA.mk x17_1_0 x17_1_1 x17_1_2) 2 hx18) jQ) ?_
     refine zW (jC rfl (gF (gW (gH.mk a1_0) a2 (gG.mk y6 y7 y8 y9 y10 y11 y12 y13) (gD.mk x17_0_0 x17_0_1 x17_0_2) (gD.mk x18_0_0 x18_0_1 x18_0_2) hx19)) jQ) ?_
     refine goT ?_
     refine jW ?_
     exact vG 1 [0,1,2,3,4]
    refine jO (qG 0 (kJ 5000 (jA.mk x17_1_0 x17_1_1 x17_1_2) 2 hx18) jQ) ?_
    refine jO (mU jQ) ?_
    refine zW (jC rfl (gF (gW (gH.mk a1_0) a2 (gG.mk y6 y7 y8 y9 y10 y11 y12 y13) (gD.mk x17_0_0 x17_0_1 x17_0_2) (gD.mk x18_0_0 x18_0_1 x18_0_2) hx19)) jQ) ?_
    refine goT ?_
    refine jW ?_
    exact vG 1 [0,1,2,3,4]
   refine jO (qG 0 (kJ 5000 (jA.mk x17_1_0 x17_1_1 x17_1_2) 2 hx18) jQ) ?_
   refine wQ (mU jQ) ?_ ?_
   ·refine jO (mU jQ) ?_
    refine zW (jC rfl (gF (gW (gH.mk a1_0) a2 (gG.mk y6 y7 y8 y9 y10 y11 y12 y13) (gD.mk x17_0_0 x17_0_1 x17_0_2) (gD.mk x18_0_0 x18_0_1 x18_0_2) hx19)) jQ) ?_
    refine goT ?_
    refine jW ?_
    exact vG 1 [0,1,2,3,4]
   refine jO (mU jQ) ?_
   refine jO (mU jQ) ?_
   refine zW (jC rfl (gF (gW (gH.mk a1_0) a2 (gG.mk y6 y7 y8 y9 y10 y11 y12 y13) (gD.mk x17_0_0 x17_0_1 x17_0_2) (gD.mk x18_0_0 x18_0_1 x18_0_2) hx19)) jQ) ?_
   refine goT ?_
   refine jW ?_
   exact vG 1 [0,1,2,3,4]
  refine goL ?_
  refine gN 32 (fun c20=>?_) (fun c20=>?_)
  ·replace h:=gX c20 h
   refine goL ?_
   refine hIk ?_
   refine goL ?_
   refine jI (qC) ?_
   exact⟨n15,x18_1_0,x18_1_1,x18_1_2,x19_0,x19_1,x19_2,x19_3,x19_4,x19_5,x19_6,x19_7,(IntKind.i64.wrap (y14+1)),h,Nat.lt_succ_self _,eJ⟩
  ·replace h:=gY c20 h
   refine goL ?_
   refine uD ?_
   obtain⟨⟨x21_0,⟨x21_1_0,x21_1_1,x21_1_2⟩⟩,hx21,h⟩:=gK h
   refine zI 0 (gG1 (jA.mk x18_1_0 x18_1_1 x18_1_2) 12 hx21) ?_
   refine goC h ?_ ?_<;>intro c22 h
   ·refine goL ?_
    refine jI (qC) ?_
    exact⟨n15,x21_1_0,x21_1_1,x21_1_2,x19_0,x19_1,x19_2,x19_3,x19_4,x19_5,x19_6,x19_7,(IntKind.i64.wrap (y14+1)),h,Nat.lt_succ_self _,eJ⟩
   ·refine goS ?_
    refine jI (qC) ?_
    exact⟨n15,x21_1_0,x21_1_1,x21_1_2,y6,y7,y8,y9,y10,y11,y12,y13,(IntKind.i64.wrap (y14+1)),h,Nat.lt_succ_self _,eJ⟩
 ·refine goX ?_
  refine jN ?_
  obtain rfl:=Option.some.inj h
  exact gFk [.d (.st [.i .i64 y6,.i .i64 y7,.i .i64 y8,.sl 4 (gQ y9),.sl 7 (jY y10),.sl 5 (jR y11),.i .i64 y12,.i .i64 y13])] [.box [.L 1 (kQ y3),.I y4,.I y5]] ⟨rfl,rfl⟩
def gWe(x0:jA)(x1:gH)(x2:List jD):Option (gG × jA):=gO2 x0 x1 x2 5000
end Go.Proofs.YtfaplndgbgoaaaaGreatDoor
set_option maxHeartbeats 4000000
set_option linter.unusedVariables false
set_option linter.unusedSimpArgs false
set_option linter.unusedSectionVars false
namespace Go.Proofs.YtfaplndgbgoaaaaGreatDoor
open Go Go.Eng
attribute [local irreducible] V VO VQ VY Quiet QR jB kX Rng uJ uY qW
def gHp(c:jA):Option (gH × jA):=
bnd (gC4 c) fun x1=>
bnd (wM x1.1) fun x2=>
(some (x2.1,x1.2))
theorem gWf(c:jA){r:gH × jA}(h:gHp c=some r):Go.Eng.Spec Tryz.prog 12 [.ptr 0 0] [.box [.L 1 (kQ c.b),.I c.i,.I c.h]] (fun sv Lo=>sv=.d (kT r.1)∧Lo=[.box [.L 1 (kQ r.2.b),.I r.2.i,.I r.2.h]]):=by
 obtain⟨c_0,c_1,c_2⟩:=c
 unfold gHp at h
 refine mP 1 Tryz.func12 rfl (by kernel_rfl) rfl rfl fun A _=>?_
 refine goL ?_
 obtain⟨⟨x1_0,⟨x1_1_0,x1_1_1,x1_1_2⟩⟩,hx1,h⟩:=gK h
 refine zI 0 (gNu (jA.mk c_0 c_1 c_2) hx1) ?_
 obtain⟨⟨⟨x2_0_0⟩,x2_1⟩,hx2,h⟩:=gK h
 refine jI (gF (gNc x1_0 hx2)) ?_
 refine jN ?_
 obtain rfl:=Option.some.inj h
 exact gFk [.d (.st [.sl 6 (kN x2_0_0)])] [.box [.L 1 (kQ x1_1_0),.I x1_1_1,.I x1_1_2]] ⟨rfl,rfl⟩
end Go.Proofs.YtfaplndgbgoaaaaGreatDoor
set_option maxHeartbeats 4000000
set_option linter.unusedVariables false
set_option linter.unusedSimpArgs false
set_option linter.unusedSectionVars false
namespace Go.Proofs.YtfaplndgbgoaaaaGreatDoor
open Go Go.Eng
attribute [local irreducible] V VO VQ VY Quiet QR jB kX Rng uJ uY qW
def vM(a0:List UInt8):Option (gG):=
lt_ (gH0 a0) fun x1=>
bnd (gHp x1) fun x2=>
bnd (gMh x2.2) fun x3=>
bnd (gWe x3.2 x2.1 x3.1) fun x4=>
(some x4.1)
theorem gIs(a0:List UInt8){r:gG}(h:vM a0=some r):jB Tryz.prog 5 [.L 1 (kQ a0)] [mE r]:=by
 unfold vM at h
 refine SpI Tryz.func5 fun A _=>?_
 refine goL ?_
 obtain⟨⟨x1_0,x1_1,x1_2⟩,hx1,h⟩:=qR h
 have sx1:=hDm a0
 rw [hx1] at sx1
 refine gG0 [] (sx1) ?_
 rintro _ _ ⟨rfl,rfl⟩
 show VO _ _ _ _ ⟨(_,.ptr 1 0)::_,[.box [.I 0,.I 0,.I 0,.nilsl,.nilsl,.nilsl,.I 0,.I 0],.box [.L 1 (kQ x1_0),.I x1_1,.I x1_2]],_⟩ _
 refine goL ?_
 obtain⟨⟨⟨x2_0_0⟩,⟨x2_1_0,x2_1_1,x2_1_2⟩⟩,hx2,h⟩:=gK h
 refine zI 1 (gWf (jA.mk x1_0 x1_1 x1_2) hx2) ?_
 refine goL ?_
 obtain⟨⟨x3_0,⟨x3_1_0,x3_1_1,x3_1_2⟩⟩,hx3,h⟩:=gK h
 refine zI 1 (gVa (jA.mk x2_1_0 x2_1_1 x2_1_2) hx3) ?_
 obtain⟨⟨⟨x4_0_0,x4_0_1,x4_0_2,x4_0_3,x4_0_4,x4_0_5,x4_0_6,x4_0_7⟩,⟨x4_1_0,x4_1_1,x4_1_2⟩⟩,hx4,h⟩:=gK h
 refine zI 1 (hDd (jA.mk x3_1_0 x3_1_1 x3_1_2) (gH.mk x2_0_0) x3_0 hx4) ?_
 exact goR h
end Go.Proofs.YtfaplndgbgoaaaaGreatDoor
