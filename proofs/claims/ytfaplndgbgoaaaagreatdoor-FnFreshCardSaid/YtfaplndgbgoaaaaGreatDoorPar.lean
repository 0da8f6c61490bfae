import Derived.Test.YtfaplndgbgoaaaaGreatDoorEng38
import Derived.Test.YtfaplndgbgoaaaaGreatDoorEng67
import Derived.Test.YtfaplndgbgoaaaaGreatDoorB11
import Derived.Test.YtfaplndgbgoaaaaGreatDoorB19
import Derived.Test.YtfaplndgbgoaaaaGreatDoorB2
import Derived.Test.YtfaplndgbgoaaaaGreatDoorB3
import Derived.Test.YtfaplndgbgoaaaaGreatDoorB5
import Derived.Test.YtfaplndgbgoaaaaGreatDoorVr
import Derived.Test.YtfaplndgbgoaaaaGreatDoorB9
import Derived.Test.YtfaplndgbgoaaaaGreatDoorB16
import Derived.Test.YtfaplndgbgoaaaaGreatDoorB12
import Derived.Test.YtfaplndgbgoaaaaGreatDoorSfi0
import Derived.KernelRfl
import Derived.Test.YtfaplndgbgoaaaaGreatDoorWd2
import Derived.Test.YtfaplndgbgoaaaaGreatDoorZk
set_option maxHeartbeats 4000000
set_option linter.unusedVariables false
set_option linter.unusedSimpArgs false
set_option linter.unusedSectionVars false
namespace Go.Proofs.YtfaplndgbgoaaaaGreatDoor
open Go Go.Eng
attribute [local irreducible] V VO VQ VY Quiet QR jB kX Rng uJ uY qW
def vH(a0:gB)(x2:List (List UInt8))(x3:gB)(x5:List (List UInt8)):List gB→(List pU)→Option (qV × Bool)
 | [],y7=>bnd (bnd (pW a0) fun x26=>
(cnd (!x26) ((some true)) ((cnd ((a0.list.length:Int)==0) ((some true)) (bnd (gEv (qV.mk x3.atom x5 (vQ x2 [97,117,116,111]) (vQ x2 [97,115,115,111,99]) y7)) fun x29=>
bnd (gAt 5000 x29 a0) fun x30=>
(some (!x30))))))) fun b25=>
(cnd b25 (
(some ((qV.mk [] [] false false []),false))) (
(some ((qV.mk x3.atom x5 (vQ x2 [97,117,116,111]) (vQ x2 [97,115,115,111,99]) y7),true))))
 | x12::xs,y7=>bnd (pX x12 0) fun x13=>
bnd (pX x12 1) fun x14=>
bnd (gLz x14.list) fun x15=>
bnd (pX x12 2) fun x16=>
bnd (gIv 5000 x16) fun x17=>
(cnd (decide ((x12.list.length:Int) > 3)) (
bnd (pX x12 3) fun x19=>
bnd (gAw x19) fun x20=>
bnd (pX x12 4) fun x21=>
bnd (gDj 5000 x21) fun x22=>
gd (y7.length+[(pU.mk x13.atom x15 x17 true x20 x22)].length≤4294967296) (
vH a0 x2 x3 x5 xs (y7++[(pU.mk x13.atom x15 x17 true x20 x22)]))) (
gd (y7.length+[(pU.mk x13.atom x15 x17 false [] (jM.mk 0 [] [] 0 (gD.mk 0 [] []) [] []))].length≤4294967296) (
vH a0 x2 x3 x5 xs (y7++[(pU.mk x13.atom x15 x17 false [] (jM.mk 0 [] [] 0 (gD.mk 0 [] []) [] []))]))))
def gFd(a0:gB):Option (qV × Bool):=
bnd (pX a0 3) fun x1=>
bnd (gAw x1) fun x2=>
bnd (pX a0 1) fun x3=>
bnd (pX a0 2) fun x4=>
bnd (gAw x4) fun x5=>
bnd (gGa a0 4) fun x6=>
vH a0 x2 x3 x5 x6 []
theorem gM9(a0:gB){r:qV × Bool}(h:gFd a0=some r):jB Tryz.prog 96 [.d (mF a0)] [gJ3 r.1,.b r.2]:=by
 obtain⟨a0_0,a0_1⟩:=a0
 unfold gFd at h
 refine SpI Tryz.func96 fun A _=>?_
 refine goL ?_
 obtain⟨⟨x1_0,x1_1⟩,hx1,h⟩:=gK h
 refine qP (gF (qH (gB.mk a0_0 a0_1) 3 hx1)) ?_
 obtain⟨x2,hx2,h⟩:=gK h
 refine qP (gF (gCt (gB.mk x1_0 x1_1) hx2)) ?_
 refine gHk ?_
 refine jL (P:=Tryz.prog) Mix.h [(0,true),(1,true),(2,true),(3,true),(4,true),(5,true),(6,true),(7,true),(8,true),(9,true),(10,true),(11,false),(12,false)] (by kernel_rfl) ?_
 refine goY ?_
 obtain⟨⟨x3_0,x3_1⟩,hx3,h⟩:=gK h
 refine jC rfl (gF (qH (gB.mk a0_0 a0_1) 1 hx3)) ?_
 refine jC rfl (gFv) ?_
 refine goY ?_
 obtain⟨⟨x4_0,x4_1⟩,hx4,h⟩:=gK h
 refine jC rfl (gF (qH (gB.mk a0_0 a0_1) 2 hx4)) ?_
 obtain⟨x5,hx5,h⟩:=gK h
 refine jC rfl (gF (gCt (gB.mk x4_0 x4_1) hx5)) ?_
 refine goY ?_
 refine jC rfl (gF (gDy x2 [97,117,116,111])) ?_
 refine goY ?_
 refine jC rfl (gF (gDy x2 [97,115,115,111,99])) ?_
 refine goY ?_
 refine kS ?_
 refine goL ?_
 obtain⟨x6,hx6,h⟩:=gK h
 refine jI (gF (gJw (gB.mk a0_0 a0_1) 4 hx6)) ?_
 refine noB ?_
 refine yJ 194 16 2 4 rfl rfl (by repeat constructor) (by repeat constructor) (by repeat constructor) (by repeat constructor) ?_
 show V _ _ _ _ _
 refine gFj 6 (fun z10=>?_)
 refine kR (fun(y9:Nat) (y7:List pU) (v8:Nat)=>⟨[(1,.ptr 0 0),(2,.ptr 1 0),(5,.ptr 2 0),(6,.L 2 (gM x6)),(7,.N y9)],[.box [.S a0_0,.L 2 (gM a0_1)],.box [.S [],.nilsl,.B false,.B false,.nilsl],.box [.S x3_0,.L 1 (gZ x5),.B (vQ x2 [97,117,116,111]),.B (vQ x2 [97,115,115,111,99]),.sl 3 v8],.arr 194 16 v8 (kU y7)],Tryz.f96.ntmps⟩) (fun y9 y7 v8=>vH (gB.mk a0_0 a0_1) x2 (gB.mk x3_0 x3_1) x5 (x6.drop y9) y7=some r) (fun y9 y7 v8=>x6.length - y9) 0 [] 0 eJ h ?_
 rintro y9 y7 v8 h
 refine goL ?_
 refine mO (fun c11=>?_) (fun c11=>?_)
 ·have hky92:=wE c11
  obtain⟨x12,hx12,hdx12⟩:=drop_at hky92
  rw [hdx12,vH.eq_2] at h
  obtain⟨x12_0,x12_1⟩:=x12
  refine noS ?_
  refine kI (jE ?_)
  refine jL (P:=Tryz.prog) Mix.h [(0,true),(1,true),(2,true),(3,true),(4,true),(5,true),(6,true),(7,true),(8,true),(9,true),(10,true),(11,true),(12,true),(13,true),(14,true),(15,true),(16,true),(17,true),(18,true),(19,true),(20,false),(21,false)] (by kernel_rfl) ?_
  refine goY ?_
  refine jC rfl (jJ y9 (qO hx12)) ?_
  refine goY ?_
  obtain⟨⟨x13_0,x13_1⟩,hx13,h⟩:=gK h
  refine jC rfl (gF (qH (gB.mk x12_0 x12_1) 0 hx13)) ?_
  refine jC rfl (gFv) ?_
  refine goY ?_
  refine jC rfl (jJ y9 (qO hx12)) ?_
  refine goY ?_
  obtain⟨⟨x14_0,x14_1⟩,hx14,h⟩:=gK h
  refine jC rfl (gF (qH (gB.mk x12_0 x12_1) 1 hx14)) ?_
  refine jC rfl (gFv) ?_
  obtain⟨x15,hx15,h⟩:=gK h
  refine jC rfl (gF (gUh x14_1 hx15)) ?_
  refine goY ?_
  refine jC rfl (jJ y9 (qO hx12)) ?_
  refine goY ?_
  obtain⟨⟨x16_0,x16_1⟩,hx16,h⟩:=gK h
  refine jC rfl (gF (qH (gB.mk x12_0 x12_1) 2 hx16)) ?_
  obtain⟨⟨x17_0,x17_1,x17_2⟩,hx17,h⟩:=gK h
  refine jC rfl (gF (gK5 5000 (gB.mk x16_0 x16_1) hx17)) ?_
  refine goY ?_
  refine kS ?_
  refine goL ?_
  refine jI (jJ y9 (qO hx12)) ?_
  refine mO (fun c18=>?_) (fun c18=>?_)
  ·replace h:=gX c18 h
   refine goL ?_
   refine jI (jJ y9 (qO hx12)) ?_
   obtain⟨⟨x19_0,x19_1⟩,hx19,h⟩:=gK h
   refine qP (gF (qH (gB.mk x12_0 x12_1) 3 hx19)) ?_
   obtain⟨x20,hx20,h⟩:=gK h
   refine jI (gF (gCt (gB.mk x19_0 x19_1) hx20)) ?_
   refine jI (jJ y9 (qO hx12)) ?_
   obtain⟨⟨x21_0,x21_1⟩,hx21,h⟩:=gK h
   refine qP (gF (qH (gB.mk x12_0 x12_1) 4 hx21)) ?_
   obtain⟨⟨x22_0,x22_1,x22_2,x22_3,⟨x22_4_0,x22_4_1,x22_4_2⟩,x22_5,x22_6⟩,hx22,h⟩:=gK h
   refine jI (gF (gMj 5000 (gB.mk x21_0 x21_1) hx22)) ?_
   refine gBc (u:=(.st [.s x13_0,.sl 3 (gJ x15),.st [.i .i64 x17_0,.s x17_1,.sl 3 (gJ x17_2)],.b true,.sl 1 (gZ x20),.st [.i .i64 x22_0,.s x22_1,.s x22_2,.i .i64 x22_3,.st [.i .i64 x22_4_0,.s x22_4_1,.sl 3 (gJ x22_4_2)],.sl 9 (kP x22_5),.sl 11 (qD x22_6)]])) ?_
   obtain⟨g23,h⟩:=mZ h
   refine gBf g23 ?_
   refine goL ?_
   refine jI (jS y9 (by omega)) ?_
   exact⟨(y9+1),(y7++[(pU.mk x13_0 x15 (gD.mk x17_0 x17_1 x17_2) true x20 (jM.mk x22_0 x22_1 x22_2 x22_3 (gD.mk x22_4_0 x22_4_1 x22_4_2) x22_5 x22_6))]),(v8+1),h,by omega,eJ⟩
  ·replace h:=gY c18 h
   refine goS ?_
   refine gBc (u:=(.st [.s x13_0,.sl 3 (gJ x15),.st [.i .i64 x17_0,.s x17_1,.sl 3 (gJ x17_2)],.b false,.sl 1 [],.st [.i .i64 0,.s [],.s [],.i .i64 0,.st [.i .i64 0,.s [],.sl 3 []],.sl 9 [],.sl 11 []]])) ?_
   obtain⟨g24,h⟩:=mZ h
   refine gBf g24 ?_
   refine goL ?_
   refine jI (jS y9 (by omega)) ?_
   exact⟨(y9+1),(y7++[(pU.mk x13_0 x15 (gD.mk x17_0 x17_1 x17_2) false [] (jM.mk 0 [] [] 0 (gD.mk 0 [] []) [] []))]),(v8+1),h,by omega,eJ⟩
 ·have hky92:=wF c11
  rw [jF hky92,vH.eq_1] at h
  refine noX ?_
  refine gHk ?_
  refine kK 3 rfl rfl ?_
  obtain⟨b25,hb25,h⟩:=gK h
  refine qZ (P:=Tryz.prog) Mix.h ⟨[(2,.ptr 1 0),(5,.ptr 2 0),(94,.B b25)],[.box [.S a0_0,.L 2 (gM a0_1)],.box [.S [],.nilsl,.B false,.B false,.nilsl],.box [.S x3_0,.L 1 (gZ x5),.B (vQ x2 [97,117,116,111]),.B (vQ x2 [97,115,115,111,99]),.sl 3 v8],.frz 194 16 v8 (kU y7)],Tryz.f96.ntmps⟩ (by kernel_rfl) ?_ ?_
  ·refine goL ?_
   obtain⟨x26,hx26,hb25⟩:=gK hb25
   refine gDm (gF (wG (gB.mk a0_0 a0_1) hx26)) ?_
   refine goL ?_
   refine vR 82 (fun c27=>?_) (fun c27=>?_)
   ·replace hb25:=gX c27 hb25
    refine goL ?_
    cases hb25
    exact eJ
   ·replace hb25:=gY c27 hb25
    refine goL ?_
    refine vR 88 (fun c28=>?_) (fun c28=>?_)
    ·replace hb25:=gX c28 hb25
     refine goL ?_
     cases hb25
     exact eJ
    ·replace hb25:=gY c28 hb25
     refine goL ?_
     obtain⟨⟨x29_0,x29_1⟩,hx29,hb25⟩:=gK hb25
     refine hAu (gXe (gL9 (qV.mk x3_0 x5 (vQ x2 [97,117,116,111]) (vQ x2 [97,115,115,111,99]) y7) hx29)) ?_
     refine goL ?_
     obtain⟨x30,hx30,hb25⟩:=gK hb25
     refine gBe (gF (gEa 5000 (gB.mk x29_0 x29_1) (gB.mk a0_0 a0_1) hx30)) ?_
     refine goL ?_
     cases hb25
     exact eJ
  refine goC h ?_ ?_<;>intro c31 h
  ·refine goL ?_
   refine gA6 (kD TBd.h TZ.h rfl (by repeat constructor)) ?_
   exact goR h
  ·refine goS ?_
   refine jN ?_
   cases h
   exact qK
def gCw(a0:jX):Option (Bool):=
bnd (gKj a0) fun x1=>
bnd ((cnd (!(kW a0.name)) ((some true)) (bnd (vY a0.deps 5) fun x4=>
(cnd (!x4) ((some true)) ((cnd (vQ a0.deps a0.name) ((some true)) ((some (decide ((IntKind.i64.wrap ((IntKind.i64.wrap ((IntKind.i64.wrap ((a0.traits.length:Int)+(a0.dataTypes.length:Int)))+(a0.instances.length:Int)))+(a0.functions.length:Int))) > 24)))))))))) fun b2=>
(cnd b2 (
(some false)) (
bnd (vT x1.1) fun x8=>
bnd ((cnd x8 (bnd (vT x1.2.1) fun x11=>
(cnd x11 (bnd (vT x1.2.2.1) fun x13=>
(cnd x13 (bnd (vT x1.2.2.2) fun x15=>
(cnd x15 (bnd (gKh a0) fun x17=>
(some x17)) ((some false)))) ((some false)))) ((some false)))) ((some false)))) fun b9=>
(some b9)))
theorem gKu(a0:jX){r:Bool}(h:gCw a0=some r):jB Tryz.prog 82 [.d (gC6 a0)] [.b r]:=by
 obtain⟨a0_0,a0_1,a0_2,a0_3,a0_4,a0_5⟩:=a0
 unfold gCw at h
 refine SpI Tryz.func82 fun A _=>?_
 refine goL ?_
 obtain⟨⟨x1_0,x1_1,x1_2,x1_3⟩,hx1,h⟩:=gK h
 refine jI (gF (gU6 (jX.mk a0_0 a0_1 a0_2 a0_3 a0_4 a0_5) hx1)) ?_
 refine jI (gF (pK a0_0)) ?_
 obtain⟨b2,hb2,h⟩:=gK h
 refine jU ⟨[(1,.ptr 0 0),(3,.L 1 (gZ x1_0)),(4,.L 1 (gZ x1_1)),(5,.L 1 (gZ x1_2)),(6,.L 1 (gZ x1_3)),(48,.B b2)],[.box [.S a0_0,.L 1 (gZ a0_1),.L 5 (uC a0_2),.L 3 (mI a0_3),.L 12 (mJ a0_4),.L 16 (mK a0_5)]],Tryz.f82.ntmps⟩ ?_ ?_
 ·refine gN 18 (fun c3=>?_) (fun c3=>?_)
  ·replace hb2:=gX c3 hb2
   refine goL ?_
   cases hb2
   exact eJ
  ·replace hb2:=gY c3 hb2
   refine goL ?_
   refine uD ?_
   obtain⟨x4,hx4,hb2⟩:=gK hb2
   refine jI (gF (yL a0_1 5 hx4)) ?_
   refine gN 24 (fun c5=>?_) (fun c5=>?_)
   ·replace hb2:=gX c5 hb2
    refine goL ?_
    cases hb2
    exact eJ
   ·replace hb2:=gY c5 hb2
    refine goL ?_
    refine uD ?_
    refine jI (gF (gDy a0_1 a0_0)) ?_
    refine gN 31 (fun c6=>?_) (fun c6=>?_)
    ·replace hb2:=gX c6 hb2
     refine goL ?_
     cases hb2
     exact eJ
    ·replace hb2:=gY c6 hb2
     refine goL ?_
     refine uD ?_
     refine jI (qC) ?_
     refine uD ?_
     refine jI (qC) ?_
     refine uD ?_
     refine jI (qC) ?_
     cases hb2
     exact eJ
 refine goC h ?_ ?_<;>intro c7 h
 ·exact goR h
 ·refine goS ?_
  obtain⟨x8,hx8,h⟩:=gK h
  refine jI (gF (zT x1_0 hx8)) ?_
  obtain⟨b9,hb9,h⟩:=gK h
  refine jU ⟨[(2,.B b9)],[.box [.S a0_0,.L 1 (gZ a0_1),.L 5 (uC a0_2),.L 3 (mI a0_3),.L 12 (mJ a0_4),.L 16 (mK a0_5)]],Tryz.f82.ntmps⟩ ?_ ?_
  ·refine gN 51 (fun c10=>?_) (fun c10=>?_)
   ·replace hb9:=gX c10 hb9
    refine goL ?_
    refine uD ?_
    obtain⟨x11,hx11,hb9⟩:=gK hb9
    refine jI (gF (zT x1_1 hx11)) ?_
    refine gN 55 (fun c12=>?_) (fun c12=>?_)
    ·replace hb9:=gX c12 hb9
     refine goL ?_
     refine uD ?_
     obtain⟨x13,hx13,hb9⟩:=gK hb9
     refine jI (gF (zT x1_2 hx13)) ?_
     refine gN 59 (fun c14=>?_) (fun c14=>?_)
     ·replace hb9:=gX c14 hb9
      refine goL ?_
      refine uD ?_
      obtain⟨x15,hx15,hb9⟩:=gK hb9
      refine jI (gF (zT x1_3 hx15)) ?_
      refine gN 63 (fun c16=>?_) (fun c16=>?_)
      ·replace hb9:=gX c16 hb9
       refine goL ?_
       refine uD ?_
       obtain⟨x17,hx17,hb9⟩:=gK hb9
       refine jI (gF (gU4 (jX.mk a0_0 a0_1 a0_2 a0_3 a0_4 a0_5) hx17)) ?_
       cases hb9
       exact eJ
      ·replace hb9:=gY c16 hb9
       refine goL ?_
       cases hb9
       exact eJ
     ·replace hb9:=gY c14 hb9
      refine goL ?_
      cases hb9
      exact eJ
    ·replace hb9:=gY c12 hb9
     refine goL ?_
     cases hb9
     exact eJ
   ·replace hb9:=gY c10 hb9
    refine goL ?_
    cases hb9
    exact eJ
  exact goR h
end Go.Proofs.YtfaplndgbgoaaaaGreatDoor
set_option maxHeartbeats 4000000
set_option linter.unusedVariables false
set_option linter.unusedSimpArgs false
set_option linter.unusedSectionVars false
namespace Go.Proofs.YtfaplndgbgoaaaaGreatDoor
open Go Go.Eng
attribute [local irreducible] V VO VQ VY Quiet QR jB kX Rng uJ uY qW
def gNa(nm:List UInt8)(deps:List (List UInt8))(x:gB)(l1:List qV)(l2:List kY)(l3:List jZ)(l4:List mD):Option (Bool × List qV × List kY × List jZ × List mD):=
bnd (pX x 0) fun x1=>
(cnd (x1.atom==[116,114,97,105,116]) (
bnd (gFd x) fun x3=>
gd (l1.length+[x3.1].length≤4294967296) (
(some (x3.2,(l1++[x3.1]),l2,l3,l4)))) (
(cnd (x1.atom==[100,97,116,97]) (
bnd (gB6 x) fun x6=>
gd (l2.length+[x6.1].length≤4294967296) (
(some (x6.2,l1,(l2++[x6.1]),l3,l4)))) (
(cnd (x1.atom==[105,110,115,116]) (
bnd (gB9 x) fun x9=>
gd (l3.length+[x9.1].length≤4294967296) (
(some (x9.2,l1,l2,(l3++[x9.1]),l4)))) (
(cnd (x1.atom==[102,110]) (
bnd (gCa x) fun x12=>
gd (l4.length+[x12.1].length≤4294967296) (
(some (x12.2,l1,l2,l3,(l4++[x12.1]))))) (
(some (false,l1,l2,l3,l4))))))))))
theorem gYg(nm:List UInt8)(deps:List (List UInt8))(x:gB)(l1:List qV)(l2:List kY)(l3:List jZ)(l4:List mD)(v1:Nat)(v2:Nat)(v3:Nat)(v4:Nat){r:Bool × List qV × List kY × List jZ × List mD}(h:gNa nm deps x l1 l2 l3 l4=some r):Go.Eng.Spec Tryz.prog 81 [.ptr 0 0,.d (mF x)] [.box [.S nm,.L 1 (gZ deps),.sl 1 v1,.sl 2 v2,.sl 3 v3,.sl 4 v4],.arr 151 5 v1 (uC l1),.arr 156 3 v2 (mI l2),.arr 161 12 v3 (mJ l3),.arr 170 16 v4 (mK l4)] (fun sv Lo=>∃v'1 v'2 v'3 v'4,sv=.B r.1∧Lo=[.box [.S nm,.L 1 (gZ deps),.sl 1 v'1,.sl 2 v'2,.sl 3 v'3,.sl 4 v'4],.arr 151 5 v'1 (uC r.2.1),.arr 156 3 v'2 (mI r.2.2.1),.arr 161 12 v'3 (mJ r.2.2.2.1),.arr 170 16 v'4 (mK r.2.2.2.2)]):=by
 obtain⟨x_0,x_1⟩:=x
 unfold gNa at h
 refine mP 5 Tryz.func81 rfl (by kernel_rfl) rfl rfl fun A _=>?_
 refine goL ?_
 obtain⟨⟨x1_0,x1_1⟩,hx1,h⟩:=gK h
 refine qP (gF (qH (gB.mk x_0 x_1) 0 hx1)) ?_
 refine jI (gFv) ?_
 refine jE ?_
 refine goC h ?_ ?_<;>intro c2 h
 ·refine goL ?_
  obtain⟨⟨⟨x3_0_0,x3_0_1,x3_0_2,x3_0_3,x3_0_4⟩,x3_1⟩,hx3,h⟩:=gK h
  refine qP (gF (gM9 (gB.mk x_0 x_1) hx3)) ?_
  refine gHk ?_
  refine jL (P:=Tryz.prog) Mix.h [(0,true),(1,true),(2,true),(3,true),(4,true),(5,true),(6,false),(7,false),(8,true),(9,true),(10,false)] (by kernel_rfl) ?_
  refine goY ?_
  refine pY (T:=83) (us:=uC [(qV.mk x3_0_0 x3_0_1 x3_0_2 x3_0_3 x3_0_4)]) ?_
  obtain⟨g4,h⟩:=mZ h
  refine pV (T:=83) g4 ?_
  refine goY ?_
  refine kS ?_
  refine goL ?_
  refine jN ?_
  obtain rfl:=Option.some.inj h
  exact gFk [.B x3_1] [.box [.S nm,.L 1 (gZ deps),.sl 1 (v1+1),.sl 2 v2,.sl 3 v3,.sl 4 v4],.arr 151 5 (v1+1) (uC (l1++[(qV.mk x3_0_0 x3_0_1 x3_0_2 x3_0_3 x3_0_4)])),.arr 156 3 v2 (mI l2),.arr 161 12 v3 (mJ l3),.arr 170 16 v4 (mK l4)] ⟨(v1+1),v2,v3,v4,rfl,rfl⟩
 ·refine goC h ?_ ?_<;>intro c5 h
  ·refine goL ?_
   obtain⟨⟨⟨x6_0_0,x6_0_1,x6_0_2⟩,x6_1⟩,hx6,h⟩:=gK h
   refine qP (gF (gJn (gB.mk x_0 x_1) hx6)) ?_
   refine gHk ?_
   refine jL (P:=Tryz.prog) Mix.h [(0,true),(1,true),(2,true),(3,true),(4,true),(5,true),(6,false),(7,false),(8,true),(9,true),(10,false)] (by kernel_rfl) ?_
   refine goY ?_
   refine pY (T:=84) (us:=mI [(kY.mk x6_0_0 x6_0_1 x6_0_2)]) ?_
   obtain⟨g7,h⟩:=mZ h
   refine pV (T:=84) g7 ?_
   refine goY ?_
   refine kS ?_
   refine goL ?_
   refine jN ?_
   obtain rfl:=Option.some.inj h
   exact gFk [.B x6_1] [.box [.S nm,.L 1 (gZ deps),.sl 1 v1,.sl 2 (v2+1),.sl 3 v3,.sl 4 v4],.arr 151 5 v1 (uC l1),.arr 156 3 (v2+1) (mI (l2++[(kY.mk x6_0_0 x6_0_1 x6_0_2)])),.arr 161 12 v3 (mJ l3),.arr 170 16 v4 (mK l4)] ⟨v1,(v2+1),v3,v4,rfl,rfl⟩
  ·refine goC h ?_ ?_<;>intro c8 h
   ·refine goL ?_
    obtain⟨⟨⟨x9_0_0,x9_0_1,⟨x9_0_2_0,x9_0_2_1,x9_0_2_2⟩,x9_0_3,x9_0_4,x9_0_5,⟨x9_0_6_0,x9_0_6_1,x9_0_6_2⟩,x9_0_7⟩,x9_1⟩,hx9,h⟩:=gK h
    refine qP (gF (gJq (gB.mk x_0 x_1) hx9)) ?_
    refine gHk ?_
    refine jL (P:=Tryz.prog) Mix.h [(0,true),(1,true),(2,true),(3,true),(4,true),(5,true),(6,false),(7,false),(8,true),(9,true),(10,false)] (by kernel_rfl) ?_
    refine goY ?_
    refine pY (T:=85) (us:=mJ [(jZ.mk x9_0_0 x9_0_1 (gD.mk x9_0_2_0 x9_0_2_1 x9_0_2_2) x9_0_3 x9_0_4 x9_0_5 (gD.mk x9_0_6_0 x9_0_6_1 x9_0_6_2) x9_0_7)]) ?_
    obtain⟨g10,h⟩:=mZ h
    refine pV (T:=85) g10 ?_
    refine goY ?_
    refine kS ?_
    refine goL ?_
    refine jN ?_
    obtain rfl:=Option.some.inj h
    exact gFk [.B x9_1] [.box [.S nm,.L 1 (gZ deps),.sl 1 v1,.sl 2 v2,.sl 3 (v3+1),.sl 4 v4],.arr 151 5 v1 (uC l1),.arr 156 3 v2 (mI l2),.arr 161 12 (v3+1) (mJ (l3++[(jZ.mk x9_0_0 x9_0_1 (gD.mk x9_0_2_0 x9_0_2_1 x9_0_2_2) x9_0_3 x9_0_4 x9_0_5 (gD.mk x9_0_6_0 x9_0_6_1 x9_0_6_2) x9_0_7)])),.arr 170 16 v4 (mK l4)] ⟨v1,v2,(v3+1),v4,rfl,rfl⟩
   ·refine goC h ?_ ?_<;>intro c11 h
    ·refine goL ?_
     obtain⟨⟨⟨x12_0_0,x12_0_1,x12_0_2,x12_0_3,⟨x12_0_4_0,x12_0_4_1,x12_0_4_2⟩,⟨x12_0_5_0,x12_0_5_1,x12_0_5_2,x12_0_5_3,⟨x12_0_5_4_0,x12_0_5_4_1,x12_0_5_4_2⟩,x12_0_5_5,x12_0_5_6⟩⟩,x12_1⟩,hx12,h⟩:=gK h
     refine qP (gF (gJr (gB.mk x_0 x_1) hx12)) ?_
     refine gHk ?_
     refine jL (P:=Tryz.prog) Mix.h [(0,true),(1,true),(2,true),(3,true),(4,true),(5,true),(6,false),(7,false),(8,true),(9,true),(10,false)] (by kernel_rfl) ?_
     refine goY ?_
     refine pY (T:=86) (us:=mK [(mD.mk x12_0_0 x12_0_1 x12_0_2 x12_0_3 (gD.mk x12_0_4_0 x12_0_4_1 x12_0_4_2) (jM.mk x12_0_5_0 x12_0_5_1 x12_0_5_2 x12_0_5_3 (gD.mk x12_0_5_4_0 x12_0_5_4_1 x12_0_5_4_2) x12_0_5_5 x12_0_5_6))]) ?_
     obtain⟨g13,h⟩:=mZ h
     refine pV (T:=86) g13 ?_
     refine goY ?_
     refine kS ?_
     refine goL ?_
     refine jN ?_
     obtain rfl:=Option.some.inj h
     exact gFk [.B x12_1] [.box [.S nm,.L 1 (gZ deps),.sl 1 v1,.sl 2 v2,.sl 3 v3,.sl 4 (v4+1)],.arr 151 5 v1 (uC l1),.arr 156 3 v2 (mI l2),.arr 161 12 v3 (mJ l3),.arr 170 16 (v4+1) (mK (l4++[(mD.mk x12_0_0 x12_0_1 x12_0_2 x12_0_3 (gD.mk x12_0_4_0 x12_0_4_1 x12_0_4_2) (jM.mk x12_0_5_0 x12_0_5_1 x12_0_5_2 x12_0_5_3 (gD.mk x12_0_5_4_0 x12_0_5_4_1 x12_0_5_4_2) x12_0_5_5 x12_0_5_6))]))] ⟨v1,v2,v3,(v4+1),rfl,rfl⟩
    ·refine goS ?_
     refine jN ?_
     obtain rfl:=Option.some.inj h
     exact gFk [.B false] [.box [.S nm,.L 1 (gZ deps),.sl 1 v1,.sl 2 v2,.sl 3 v3,.sl 4 v4],.arr 151 5 v1 (uC l1),.arr 156 3 v2 (mI l2),.arr 161 12 v3 (mJ l3),.arr 170 16 v4 (mK l4)] ⟨v1,v2,v3,v4,rfl,rfl⟩
end Go.Proofs.YtfaplndgbgoaaaaGreatDoor
set_option maxHeartbeats 4000000
set_option linter.unusedVariables false
set_option linter.unusedSimpArgs false
set_option linter.unusedSectionVars false
namespace Go.Proofs.YtfaplndgbgoaaaaGreatDoor
open Go Go.Eng
attribute [local irreducible] V VO VQ VY Quiet QR jB kX Rng uJ uY qW
def vP(x2:List (List UInt8) × Bool)(x3:gB):List gB→(List qV)→(List kY)→(List jZ)→(List mD)→Option (jX × Bool)
 | [],y13,y15,y17,y19=>bnd (gCw (jX.mk x3.atom x2.1 y13 y15 y17 y19)) fun x31=>
(cnd (!x31) (
(some ((jX.mk [] [] [] [] [] []),false))) (
(some ((jX.mk x3.atom x2.1 y13 y15 y17 y19),true))))
 | x24::xs,y13,y15,y17,y19=>bnd (gNa x3.atom x2.1 x24 y13 y15 y17 y19) fun x25=>
(cnd (!x25.1) (
(some ((jX.mk [] [] [] [] [] []),false))) (
vP x2 x3 xs x25.2.1 x25.2.2.1 x25.2.2.2.1 x25.2.2.2.2))
def wC(a0:gB):Option (jX × Bool):=
bnd (pX a0 2) fun x1=>
bnd (gHo x1.list) fun x2=>
bnd (pX a0 1) fun x3=>
bnd (pW a0) fun x4=>
bnd ((cnd (!x4) ((some true)) ((cnd (decide ((a0.list.length:Int) < 3)) ((some true)) (bnd (at? a0.list 0) fun x8=>
(cnd (!(x8.atom==[112,97,99,107,97,103,101])) ((some true)) (bnd (at? a0.list 2) fun x10=>
(cnd (!(x10.atom==[])) ((some true)) ((some (!x2.2))))))))))) fun b5=>
(cnd b5 (
(some ((jX.mk [] [] [] [] [] []),false))) (
vP x2 x3 (a0.list.drop 3) [] [] [] []))
theorem gKv(a0:gB){r:jX × Bool}(h:wC a0=some r):jB Tryz.prog 65 [.d (mF a0)] [gC6 r.1,.b r.2]:=by
 obtain⟨a0_0,a0_1⟩:=a0
 unfold wC at h
 refine SpI Tryz.func65 fun A _=>?_
 refine goL ?_
 obtain⟨⟨x1_0,x1_1⟩,hx1,h⟩:=gK h
 refine qP (gF (qH (gB.mk a0_0 a0_1) 2 hx1)) ?_
 refine qP (gFv) ?_
 obtain⟨⟨x2_0,x2_1⟩,hx2,h⟩:=gK h
 refine jI (gF (gMa x1_1 hx2)) ?_
 obtain⟨⟨x3_0,x3_1⟩,hx3,h⟩:=gK h
 refine qP (gF (qH (gB.mk a0_0 a0_1) 1 hx3)) ?_
 refine jI (gFv) ?_
 refine gFl (kD TBd.h TZ.h rfl (by repeat constructor)) ?_
 obtain⟨x4,hx4,h⟩:=gK h
 refine jI (gF (wG (gB.mk a0_0 a0_1) hx4)) ?_
 obtain⟨b5,hb5,h⟩:=gK h
 refine jU ⟨[(1,.ptr 0 0),(2,.ptr 1 0),(6,.ptr 2 0),(48,.B b5)],[.box [.S a0_0,.L 2 (gM a0_1)],.box [.S [],.nilsl,.nilsl,.nilsl,.nilsl,.nilsl],.box [.S x3_0,.L 1 (gZ x2_0),.nilsl,.nilsl,.nilsl,.nilsl]],Tryz.f65.ntmps⟩ ?_ ?_
 ·refine gN 23 (fun c6=>?_) (fun c6=>?_)
  ·replace hb5:=gX c6 hb5
   refine goL ?_
   cases hb5
   exact eJ
  ·replace hb5:=gY c6 hb5
   refine goL ?_
   refine gN 29 (fun c7=>?_) (fun c7=>?_)
   ·replace hb5:=gX c7 hb5
    refine goL ?_
    cases hb5
    exact eJ
   ·replace hb5:=gY c7 hb5
    refine goL ?_
    refine uD ?_
    obtain⟨x8,hx8,hb5⟩:=gK hb5
    obtain⟨hx80,hx8⟩:=gD6 hx8
    obtain⟨x8_0,x8_1⟩:=x8
    refine jI (qU hx80 (qO hx8)) ?_
    refine gN 37 (fun c9=>?_) (fun c9=>?_)
    ·replace hb5:=gX c9 hb5
     refine goL ?_
     cases hb5
     exact eJ
    ·replace hb5:=gY c9 hb5
     refine goL ?_
     refine uD ?_
     obtain⟨x10,hx10,hb5⟩:=gK hb5
     obtain⟨hx100,hx10⟩:=gD6 hx10
     obtain⟨x10_0,x10_1⟩:=x10
     refine jI (qU hx100 (qO hx10)) ?_
     refine gN 45 (fun c11=>?_) (fun c11=>?_)
     ·replace hb5:=gX c11 hb5
      refine goL ?_
      cases hb5
      exact eJ
     ·replace hb5:=gY c11 hb5
      refine goL ?_
      cases hb5
      exact eJ
 refine goC h ?_ ?_<;>intro c12 h
 ·refine goL ?_
  refine gA6 (kD TBd.h TZ.h rfl (by repeat constructor)) ?_
  exact goR h
 ·refine goS ?_
  refine noB ?_
  refine yJ 151 5 2 2 rfl rfl (by repeat constructor) (by repeat constructor) (by repeat constructor) (by repeat constructor) ?_
  show V _ _ _ _ _
  refine yJ 156 3 2 3 rfl rfl (by repeat constructor) (by repeat constructor) (by repeat constructor) (by repeat constructor) ?_
  show V _ _ _ _ _
  refine yJ 161 12 2 4 rfl rfl (by repeat constructor) (by repeat constructor) (by repeat constructor) (by repeat constructor) ?_
  show V _ _ _ _ _
  refine yJ 170 16 2 5 rfl rfl (by repeat constructor) (by repeat constructor) (by repeat constructor) (by repeat constructor) ?_
  show V _ _ _ _ _
  refine vN 0 1 (fun z22=>?_)
  refine gX5 (fun(y21:Nat) (y13:List qV) (y15:List kY) (y17:List jZ) (y19:List mD) (v14:Nat) (v16:Nat) (v18:Nat) (v20:Nat)=>⟨[(1,.ptr 0 0),(2,.ptr 1 0),(6,.ptr 2 0),(7,.N y21)],[.box [.S a0_0,.L 2 (gM a0_1)],.box [.S [],.nilsl,.nilsl,.nilsl,.nilsl,.nilsl],.box [.S x3_0,.L 1 (gZ x2_0),.sl 3 v14,.sl 4 v16,.sl 5 v18,.sl 6 v20],.arr 151 5 v14 (uC y13),.arr 156 3 v16 (mI y15),.arr 161 12 v18 (mJ y17),.arr 170 16 v20 (mK y19)],Tryz.f65.ntmps⟩) (fun y21 y13 y15 y17 y19 v14 v16 v18 v20=>vP (x2_0,x2_1) (gB.mk x3_0 x3_1) (a0_1.drop y21) y13 y15 y17 y19=some r) (fun y21 y13 y15 y17 y19 v14 v16 v18 v20=>a0_1.length - y21) 3 [] [] [] [] 0 0 0 0 eJ h ?_
  rintro y21 y13 y15 y17 y19 v14 v16 v18 v20 h
  refine goL ?_
  refine mO (fun c23=>?_) (fun c23=>?_)
  ·have hky212:=wE c23
   obtain⟨x24,hx24,hdx24⟩:=drop_at hky212
   rw [hdx24,vP.eq_2] at h
   obtain⟨x24_0,x24_1⟩:=x24
   refine noS ?_
   refine kI (jE ?_)
   refine goL ?_
   refine jI (jJ y21 (qO hx24)) ?_
   obtain⟨⟨x25_0,x25_1,x25_2,x25_3,x25_4⟩,hx25,h⟩:=gK h
   refine gG0 [2,3,4,5,6] (gYg x3_0 x2_0 (gB.mk x24_0 x24_1) y13 y15 y17 y19 v14 v16 v18 v20 hx25) ?_
   rintro _ _ ⟨v26,v27,v28,v29,rfl,rfl⟩
   show VO _ _ _ _ ⟨(_,.B x25_0)::_,[.box [.S a0_0,.L 2 (gM a0_1)],.box [.S [],.nilsl,.nilsl,.nilsl,.nilsl,.nilsl],.box [.S x3_0,.L 1 (gZ x2_0),.sl 3 v26,.sl 4 v27,.sl 5 v28,.sl 6 v29],.arr 151 5 v26 (uC x25_1),.arr 156 3 v27 (mI x25_2),.arr 161 12 v28 (mJ x25_3),.arr 170 16 v29 (mK x25_4)],_⟩ _
   refine goC h ?_ ?_<;>intro c30 h
   ·refine goL ?_
    refine gA6 (kD TBd.h TZ.h rfl (by repeat constructor)) ?_
    exact goR h
   ·refine goS ?_
    refine jI (jS y21 (by omega)) ?_
    exact⟨(y21+1),x25_1,x25_2,x25_3,x25_4,v26,v27,v28,v29,h,by omega,eJ⟩
  ·have hky212:=wF c23
   rw [jF hky212,vP.eq_1] at h
   refine goX ?_
   obtain⟨x31,hx31,h⟩:=gK h
   refine gFl (gSj (gKu (jX.mk x3_0 x2_0 y13 y15 y17 y19) hx31)) ?_
   refine mO (fun c32=>?_) (fun c32=>?_)
   ·replace h:=gX c32 h
    refine goL ?_
    refine gA6 (kD TBd.h TZ.h rfl (by repeat constructor)) ?_
    exact goR h
   ·replace h:=gY c32 h
    refine goS ?_
    refine kK 3 rfl rfl ?_
    refine kK 4 rfl rfl ?_
    refine kK 5 rfl rfl ?_
    refine kK 6 rfl rfl ?_
    refine jN ?_
    cases h
    exact qK
end Go.Proofs.YtfaplndgbgoaaaaGreatDoor
set_option maxHeartbeats 4000000
set_option linter.unusedVariables false
set_option linter.unusedSimpArgs false
set_option linter.unusedSectionVars false
namespace Go.Proofs.YtfaplndgbgoaaaaGreatDoor
open Go Go.Eng
attribute [local irreducible] V VO VQ VY Quiet QR jB kX Rng uJ uY qW
def gAl(a0:List UInt8):Option (jX × Bool):=
bnd (gBz a0) fun x1=>
(cnd (!x1.2) (
(some ((jX.mk [] [] [] [] [] []),false))) (
bnd (wC x1.1) fun x3=>
(some (x3.1,x3.2))))
theorem gNb(a0:List UInt8){r:jX × Bool}(h:gAl a0=some r):jB Tryz.prog 46 [.S a0] [gC6 r.1,.b r.2]:=by
 unfold gAl at h
 refine SpI Tryz.func46 fun A _=>?_
 refine goL ?_
 obtain⟨⟨⟨x1_0_0,x1_0_1⟩,x1_1⟩,hx1,h⟩:=gK h
 refine jI (gF (gOr a0 hx1)) ?_
 refine mO (fun c2=>?_) (fun c2=>?_)
 ·replace h:=gX c2 h
  refine goL ?_
  refine gA6 (kD TBd.h TZ.h rfl (by repeat constructor)) ?_
  exact goR h
 ·replace h:=gY c2 h
  refine goS ?_
  obtain⟨⟨⟨x3_0_0,x3_0_1,x3_0_2,x3_0_3,x3_0_4,x3_0_5⟩,x3_1⟩,hx3,h⟩:=gK h
  refine qP (gF (gKv (gB.mk x1_0_0 x1_0_1) hx3)) ?_
  exact goR h
end Go.Proofs.YtfaplndgbgoaaaaGreatDoor
set_option maxHeartbeats 4000000
set_option linter.unusedVariables false
set_option linter.unusedSimpArgs false
set_option linter.unusedSectionVars false
namespace Go.Proofs.YtfaplndgbgoaaaaGreatDoor
open Go Go.Eng
attribute [local irreducible] V VO VQ VY Quiet QR jB kX Rng uJ uY qW
def qL:List (List UInt8)→(List jX)→Option (gH × Int)
 | [],y2=>(some ((gH.mk y2),(-1)))
 | x7::xs,y2=>(cnd (gEn x7) (
qL xs y2) (
bnd (gAl x7) fun x9=>
lt_ ((cnd (!x9.2) (true) (((y2.length:Int)==5)))) fun b10=>
(cnd b10 (
(some ((gH.mk []),(y2.length:Int)))) (
gd (y2.length+[x9.1].length≤4294967296) (
qL xs (y2++[x9.1]))))))
def wM(a0:List UInt8):Option (gH × Int):=
bnd (gCy a0 10) fun x1=>
qL x1 []
theorem gNc(a0:List UInt8){r:gH × Int}(h:wM a0=some r):jB Tryz.prog 25 [.S a0] [kT r.1,.i .i64 r.2]:=by
 unfold wM at h
 refine SpI Tryz.func25 fun A _=>?_
 refine goL ?_
 refine gFl (kD TBd.h TZ.h rfl (by repeat constructor)) ?_
 obtain⟨x1,hx1,h⟩:=gK h
 refine jI (gF (gRh a0 10 hx1)) ?_
 refine noB ?_
 refine yJ 88 6 1 0 rfl rfl (by repeat constructor) (by repeat constructor) (by repeat constructor) (by repeat constructor) ?_
 show V _ _ _ _ _
 refine gFj 5 (fun z5=>?_)
 refine kR (fun(y4:Nat) (y2:List jX) (v3:Nat)=>⟨[(2,.ptr 0 0),(4,.ptr 1 0),(5,.L 1 (gZ x1)),(6,.N y4)],[.box [.nilsl],.box [.sl 2 v3],.arr 88 6 v3 (kN y2)],Tryz.f25.ntmps⟩) (fun y4 y2 v3=>qL (x1.drop y4) y2=some r) (fun y4 y2 v3=>x1.length - y4) 0 [] 0 eJ h ?_
 rintro y4 y2 v3 h
 refine goL ?_
 refine mO (fun c6=>?_) (fun c6=>?_)
 ·have hky42:=wE c6
  obtain⟨x7,hx7,hdx7⟩:=drop_at hky42
  rw [hdx7,qL.eq_2] at h
  refine noS ?_
  refine kI (jE ?_)
  refine goL ?_
  refine jI (jJ y4 (gOe hx7)) ?_
  refine jI (gF (gVq x7)) ?_
  refine mO (fun c8=>?_) (fun c8=>?_)
  ·replace h:=gX c8 h
   refine goX ?_
   refine jI (jS y4 (by omega)) ?_
   exact⟨(y4+1),y2,v3,h,by omega,eJ⟩
  ·replace h:=gY c8 h
   refine goS ?_
   refine jI (jJ y4 (gOe hx7)) ?_
   obtain⟨⟨⟨x9_0_0,x9_0_1,x9_0_2,x9_0_3,x9_0_4,x9_0_5⟩,x9_1⟩,hx9,h⟩:=gK h
   refine jI (gF (gNb x7 hx9)) ?_
   obtain⟨b10,hb10,h⟩:=qR h
   refine jU ⟨[(2,.ptr 0 0),(4,.ptr 1 0),(5,.L 1 (gZ x1)),(6,.N y4),(7,.ptr 3 0),(38,.B b10)],[.box [.nilsl],.box [.sl 2 v3],.arr 88 6 v3 (kN y2),.box [.S x9_0_0,.L 1 (gZ x9_0_1),.L 5 (uC x9_0_2),.L 3 (mI x9_0_3),.L 12 (mJ x9_0_4),.L 16 (mK x9_0_5)]],Tryz.f25.ntmps⟩ ?_ ?_
   ·refine gN 33 (fun c11=>?_) (fun c11=>?_)
    ·replace hb10:=gX c11 hb10
     refine goL ?_
     cases hb10
     exact eJ
    ·replace hb10:=gY c11 hb10
     refine goL ?_
     cases hb10
     exact eJ
   refine goC h ?_ ?_<;>intro c12 h
   ·refine uZ (P:=Tryz.prog) Mix.h (.q 0 (.q 1 (.h 2 (.h 3 (.h 4 (.q 5 .nil) .nil) (.h 4 (.h 3 (.q 5 .nil) .nil) .nil)) (.h 4 (.h 2 (.h 3 (.q 5 .nil) .nil) .nil) .nil)))) ⟨[(2,.ptr 0 0),(3,.I (y2.length:Int))],[.box [.nilsl],.box [.sl 2 v3],.arr 88 6 v3 (kN y2),.box [.S x9_0_0,.L 1 (gZ x9_0_1),.L 5 (uC x9_0_2),.L 3 (mI x9_0_3),.L 12 (mJ x9_0_4),.L 16 (mK x9_0_5)]],Tryz.f25.ntmps⟩ (by kernel_rfl) ?_ ?_
    ·refine goT ?_
     refine wQ (mU jQ) ?_ ?_
     ·refine wQ (gX6 jQ) ?_ ?_
      ·refine goT ?_
       refine jW ?_
       exact vG 0 [0,1,2,3]
      refine goT ?_
      refine jO (gX6 jQ) ?_
      refine goT ?_
      refine jW ?_
      exact vG 0 [0,1,2,3]
     refine goT ?_
     refine jO (mU jQ) ?_
     refine jO (gX6 jQ) ?_
     refine goT ?_
     refine jW ?_
     exact vG 0 [0,1,2,3]
    exact goR h
   ·refine goS ?_
    refine gBc (u:=(.st [.s x9_0_0,.sl 1 (gZ x9_0_1),.sl 5 (uC x9_0_2),.sl 3 (mI x9_0_3),.sl 12 (mJ x9_0_4),.sl 16 (mK x9_0_5)])) ?_
    obtain⟨g13,h⟩:=mZ h
    refine gBf g13 ?_
    refine goL ?_
    refine jI (jS y4 (by omega)) ?_
    exact⟨(y4+1),(y2++[(jX.mk x9_0_0 x9_0_1 x9_0_2 x9_0_3 x9_0_4 x9_0_5)]),(v3+1),h,by omega,eJ⟩
 ·have hky42:=wF c6
  rw [jF hky42,qL.eq_1] at h
  refine goX ?_
  refine kK 2 rfl rfl ?_
  refine jN ?_
  cases h
  exact qK
end Go.Proofs.YtfaplndgbgoaaaaGreatDoor
set_option maxHeartbeats 4000000
set_option linter.unusedVariables false
set_option linter.unusedSimpArgs false
set_option linter.unusedSectionVars false
namespace Go.Proofs.YtfaplndgbgoaaaaGreatDoor
open Go Go.Eng
attribute [local irreducible] V VO VQ VY Quiet QR jB kX Rng uJ uY qW
theorem gYh{x:gB}(hx:wfx x=true)(hn:ndx x≤900)(hd:dpx x≤14)(hl:(fmt x).length≤4900)(hv:pW x=some true):gBz (fmt x)=some (x,true):=by
 have h:gAa 5000 ⟨fmt x,0,0,0,false⟩=some (x,⟨fmt x,((0+(fmt x).length:Nat):Int),0,0+ndx x,false⟩):=
  gYv (s:=fmt x) (by omega) x 0 5000 0 0 [] hx (by simp) (fun b t h=>by cases h) (by omega) (by omega) (by omega) (by omega) (by omega)
 unfold gBz
 rw [kG h]
 simp only
 rw [kG (hBp (.inl (by simp)))]
 simp only [gP]
 rw [show (((0+(fmt x).length:Nat):Int) !=((fmt x).length:Int))=false from by rw [Nat.zero_add];exact bne_self_eq_false _]
 simp only [gP,hv,bnd,Bool.not_true]
def noL(l:List UInt8):Bool:=l.all fun b=> !((b.toNat:Int)==10)
theorem gJ9(s:List UInt8)(hl:s.length≤4294967296)(tail:List UInt8):∀(a:List UInt8) (p q n:Nat) (acc:List (List UInt8)),noL a=true→s.drop p=a++tail→mR s 10 (n+a.length) acc q (p:Int)=mR s 10 n acc q ((p+a.length:Nat):Int)
 | [],p,q,n,acc,_,_=>rfl
 | b::a,p,q,n,acc,hb,h=>by
   simp only [noL,List.all_cons,Bool.and_eq_true,Bool.not_eq_true'] at hb
   obtain⟨h1,h2,h3⟩:=gCp (by simpa using h)
   rw [show n+(b::a).length=(n+a.length)+1 by simp;omega,mR]
   rw [show decide ((p:Int)≤(s.length:Int))=true from decide_eq_true (by omega),show((p:Int)==(s.length:Int))=false from beq_eq_false_iff_ne.2 (by omega)]
   simp only [jH,gP,h1,bnd,hb.1]
   rw [gP4 (by omega),gJ9 s hl tail a (p+1) q n acc hb.2 h2]
   simp only [List.length_cons]
   rw [show p+1+a.length=p+(a.length+1) by omega]
theorem gRd(s:List UInt8)(hl:s.length≤4294967295)(q n:Nat)(acc:List (List UInt8))(hq:q≤s.length)(ha:acc.length≤4294967295):mR s 10 (n+2) acc q (s.length:Int)=some (acc++[s.drop q]):=by
 rw [mR]
 rw [show decide ((s.length:Int)≤(s.length:Int))=true from decide_eq_true (by omega),beq_self_eq_true]
 simp only [jH,bnd]
 rw [pF ⟨by omega,by omega,by omega⟩,pF (by simp;omega),gP4 (by omega),mR,show decide (((s.length+1:Nat):Int)≤(s.length:Int))=false from decide_eq_false (by omega)]
 simp only [gP,Int.toNat_natCast]
 rw [List.take_of_length_le (by simp)]
theorem hBc(s:List UInt8)(hl:s.length≤4294967295)(p q n:Nat)(acc:List (List UInt8)){t:List UInt8}(h:s.drop p=10::t)(hq:q≤p)(ha:acc.length≤4294967295):mR s 10 (n+1) acc q (p:Int)=mR s 10 n (acc++[(s.drop q).take (p - q)]) ((p+1:Nat):Int) ((p+1:Nat):Int):=by
 obtain⟨h1,h2,h3⟩:=gCp h
 rw [mR]
 rw [show decide ((p:Int)≤(s.length:Int))=true from decide_eq_true (by omega),show((p:Int)==(s.length:Int))=false from beq_eq_false_iff_ne.2 (by omega)]
 simp only [jH,gP,h1,bnd]
 rw [show ((((10:UInt8).toNat:Nat):Int)==10)=true from by decide]
 simp only [jH]
 rw [pF ⟨by omega,by omega,by omega⟩,pF (by simp;omega),gP4 (by omega)]
 simp only [Int.toNat_natCast]
theorem hHm(l:List UInt8)(h:noL l=true)(hl:l.length≤4900):gCy l 10=some [l]:=by
 have h1:=gJ9 l (by omega) [] l 0 0 (5000 - l.length) [] h (by simp)
 have h2:=gRd l (by omega) 0 (5000 - l.length - 2) [] (by omega) (by simp)
 unfold gCy gDs
 rw [show 5000 - l.length+l.length=5000 by omega,Nat.zero_add] at h1
 rw [show 5000 - l.length - 2+2=5000 - l.length by omega] at h2
 exact(h1.trans h2).trans (by simp)
theorem hHn(l m:List UInt8)(h:noL l=true)(h':noL m=true)(hl:l.length+m.length≤4900):gCy (l++[10]++m) 10=some [l,m]:=by
 have hs:(l++[10]++m).length=l.length+1+m.length:=by simp;omega
 have h1:=gJ9 (l++[10]++m) (by omega) (10::m) l 0 0 (5000 - l.length) [] h (by simp)
 have h2:=hBc (l++[10]++m) (by omega) l.length 0 (4999 - l.length) [] (t:=m) (by simp) (by omega) (by simp)
 have h3:=gJ9 (l++[10]++m) (by omega) [] m (l.length+1) (l.length+1) (4999 - l.length - m.length) [l] h' (by simp [List.drop_append])
 have h4:=gRd (l++[10]++m) (by omega) (l.length+1) (4997 - l.length - m.length) [l] (by omega) (by simp)
 unfold gCy gDs
 rw [show 5000 - l.length+l.length=5000 by omega,Nat.zero_add] at h1
 rw [show 4999 - l.length+1=5000 - l.length by omega] at h2
 rw [show 4999 - l.length - m.length+m.length=4999 - l.length by omega] at h3
 rw [show 4997 - l.length - m.length+2=4999 - l.length - m.length by omega,hs] at h4
 have h5:(List.drop 0 (l++[10]++m)).take (l.length - 0)=l:=by simp
 rw [h5,List.nil_append] at h2
 refine((h1.trans h2).trans (h3.trans h4)).trans ?_
 simp [List.drop_append]
def hKi(x:gB)(m:Nat)(good:jX→Bool):Bool:=
 wfx x && decide (ndx x≤900) && decide (dpx x≤14) && decide ((fmt x).length≤m) && noL (fmt x) && !(gEn (fmt x)) && (pW x==some true) && (match wC x with | some (p,true)=>good p | _=>false)
theorem gYi{x:gB}{m:Nat}{good:jX→Bool}(hm:m≤4900)(h:hKi x m good=true):∃p,gAl (fmt x)=some (p,true)∧wC x=some (p,true)∧good p=true∧gEn (fmt x)=false∧noL (fmt x)=true∧(fmt x).length≤m:=by
 unfold hKi at h
 simp only [Bool.and_eq_true,decide_eq_true_eq,Bool.not_eq_true',beq_iff_eq] at h
 obtain⟨⟨⟨⟨⟨⟨⟨h1,h2⟩,h3⟩,h4⟩,h5⟩,h6⟩,h7⟩,h8⟩:=h
 split at h8
 ·rename_i p hp
  refine⟨p,?_,hp,h8,h6,h5,h4⟩
  unfold gAl
  rw [kG (gYh h1 h2 h3 (by omega) h7)]
  simp only [Bool.not_true,gP,hp,bnd]
 ·cases h8
def hHo(p:jX):Bool:=p.instances.all fun i=> !(i.trait==addN)
def okC(b:Bool):Bool:=hKi (gP6 b) 3000 fun _=>true
def okA:Bool:=gY0.all fun h=>gY1.all fun m=>[[],hFc].all fun o1=>[[],hFd].all fun o2=>[[],hFe].all fun o3=>hKi (hFh h m o1 o2 o3) 1500 fun p=>hHo p && decide (p.instances.length≤100)
theorem hO0:okC true=true:=by kernel_rfl
theorem hO1:okC false=true:=by kernel_rfl
end Go.Proofs.YtfaplndgbgoaaaaGreatDoor
