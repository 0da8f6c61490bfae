import Derived.Test.YtfaplndgbgoaaaaGreatDoorEng38
import Derived.Test.YtfaplndgbgoaaaaGreatDoorEng67
import Derived.Test.YtfaplndgbgoaaaaGreatDoorB12
import Derived.Test.YtfaplndgbgoaaaaGreatDoorB3
import Derived.Test.YtfaplndgbgoaaaaGreatDoorVr
import Derived.Test.YtfaplndgbgoaaaaGreatDoorUn1
set_option maxHeartbeats 4000000
set_option linter.unusedVariables false
set_option linter.unusedSimpArgs false
set_option linter.unusedSectionVars false
namespace Go.Proofs.YtfaplndgbgoaaaaGreatDoor
open Go Go.Eng
attribute [local irreducible] V VO VQ VY Quiet QR jB kX Rng uJ uY qW
def gBi(rec_l28Normal:gH→(List jD)→gD→Int→Option (gD × Int))(a0:gH)(a1:List jD)(a3:Int):List gD→(List gD)→Option (List gD × Int)
 | [],y1=>(some (y1,0))
 | x6::xs,y1=>bnd (rec_l28Normal a0 a1 x6 a3) fun x7=>
(cnd (x7.2 != 0) (
(some ([],x7.2))) (
gd (y1.length+[x7.1].length≤4294967296) (
gBi rec_l28Normal a0 a1 a3 xs (y1++[x7.1]))))
def gOt(rec_l28All:gH→(List jD)→(List gD)→Int→Option (List gD × Int))(rec_l28Normal:gH→(List jD)→gD→Int→Option (gD × Int))(a0:gH)(a1:List jD)(a2:List gD)(a3:Int):Option (List gD × Int):=
gBi rec_l28Normal a0 a1 a3 a2 []
theorem gZo{rec_l28All:gH→(List jD)→(List gD)→Int→Option (List gD × Int)}{rec_l28Normal:gH→(List jD)→gD→Int→Option (gD × Int)}(hrec_l28All:∀(x0:gH) (x1:List jD) (x2:List gD) (x3:Int) {r:List gD × Int},rec_l28All x0 x1 x2 x3=some r→jB Tryz.prog 108 [.d (kT x0),.L 4 (jT x1),.L 3 (gJ x2),.I x3] [.sl 3 (gJ r.1),.i .i64 r.2])(hrec_l28Normal:∀(x0:gH) (x1:List jD) (x2:gD) (x3:Int) {r:gD × Int},rec_l28Normal x0 x1 x2 x3=some r→jB Tryz.prog 91 [.d (kT x0),.L 4 (jT x1),.d (jP x2),.I x3] [jP r.1,.i .i64 r.2])(a0:gH)(a1:List jD)(a2:List gD)(a3:Int){r:List gD × Int}(h:gOt rec_l28All rec_l28Normal a0 a1 a2 a3=some r):jB Tryz.prog 108 [.d (kT a0),.L 4 (jT a1),.L 3 (gJ a2),.I a3] [.sl 3 (gJ r.1),.i .i64 r.2]:=by
 obtain⟨a0_0⟩:=a0
 unfold gOt at h
 refine SpI Tryz.func108 fun A _=>?_
 refine goL ?_
 refine zN ?_
 refine goL ?_
 refine noB ?_
 refine gFj 2 (fun z4=>?_)
 refine kR (fun(y3:Nat) (y1:List gD) (v2:Nat)=>⟨[(1,.L 4 (jT a1)),(2,.L 3 (gJ a2)),(3,.I a3),(4,.ptr 0 0),(10,.sl 1 v2),(11,.N y3)],[.box [.L 6 (kN a0_0)],.arr 32 3 v2 (gJ y1)],Tryz.f108.ntmps⟩) (fun y3 y1 v2=>gBi rec_l28Normal (gH.mk a0_0) a1 a3 (a2.drop y3) y1=some r) (fun y3 y1 v2=>a2.length - y3) 0 [] 0 eJ h ?_
 rintro y3 y1 v2 h
 refine goL ?_
 refine mO (fun c5=>?_) (fun c5=>?_)
 ·have hky32:=wE c5
  obtain⟨x6,hx6,hdx6⟩:=drop_at hky32
  rw [hdx6,gBi.eq_2] at h
  obtain⟨x6_0,x6_1,x6_2⟩:=x6
  refine noS ?_
  refine kI (jE ?_)
  refine jL (P:=Tryz.prog) Mix.h [(0,true),(1,true),(2,true),(3,true),(4,true),(5,true),(6,true),(7,true),(8,true),(9,true),(10,true),(11,false),(12,false),(13,true)] (by kernel_rfl) ?_
  refine goY ?_
  refine jC rfl (jJ y3 (gBb hx6)) ?_
  refine goY ?_
  obtain⟨⟨⟨x7_0_0,x7_0_1,x7_0_2⟩,x7_1⟩,hx7,h⟩:=gK h
  refine jC rfl (gF (hrec_l28Normal (gH.mk a0_0) a1 (gD.mk x6_0 x6_1 x6_2) a3 hx7)) ?_
  refine goY ?_
  refine kS ?_
  refine goC h ?_ ?_<;>intro c8 h
  ·refine goL ?_
   refine zN ?_
   refine goL ?_
   refine kK 3 rfl rfl ?_
   refine jN ?_
   cases h
   exact qK
  ·refine goS ?_
   refine gBc (u:=(.st [.i .i64 x7_0_0,.s x7_0_1,.sl 3 (gJ x7_0_2)])) ?_
   obtain⟨g9,h⟩:=mZ h
   refine gBf g9 ?_
   refine goL ?_
   refine jI (jS y3 (by omega)) ?_
   exact⟨(y3+1),(y1++[(gD.mk x7_0_0 x7_0_1 x7_0_2)]),(v2+1),h,by omega,eJ⟩
 ·have hky32:=wF c5
  rw [jF hky32,gBi.eq_1] at h
  refine goX ?_
  refine kK 1 rfl rfl ?_
  refine jN ?_
  cases h
  exact qK
def gEr(rec_l28All:gH→(List jD)→(List gD)→Int→Option (List gD × Int))(rec_l28Normal:gH→(List jD)→gD→Int→Option (gD × Int))(a0:gH)(a1:List jD)(a2:gD)(a3:Int):Option (gD × Int):=
bnd (rec_l28All a0 a1 a2.args a3) fun x1=>
(cnd (x1.2 != 0) (
(some ((gD.mk 0 [] []),x1.2))) (
(cnd (decide ((tsz (gD.mk a2.kind a2.name x1.1)) > 400)) (
(some ((gD.mk 0 [] []),2))) (
lt_ ((cnd (a2.kind != 3) (true) (((x1.1.length:Int) != 1)))) fun b4=>
(cnd b4 (
(some ((gD.mk a2.kind a2.name x1.1),0))) (
(cnd (a3==0) (
(some ((gD.mk 0 [] []),2))) (
bnd (at? x1.1 0) fun x8=>
bnd (gJl a0 a1 (jD.mk a2.name x8)) fun x9=>
(cnd (x9.2 != 0) (
(some ((gD.mk 0 [] []),1))) (
(cnd (x9.1.kind != 1) (
(some ((gD.mk a2.kind a2.name x1.1),0))) (
bnd (yF a0 x9.1.at_ x8) fun x12=>
(cnd (!x12.2) (
(some ((gD.mk 0 [] []),1))) (
bnd (rec_l28Normal a0 a1 x12.1 (IntKind.i64.wrap (a3 - 1))) fun x14=>
(some (x14.1,x14.2))))))))))))))))
theorem gR5{rec_l28All:gH→(List jD)→(List gD)→Int→Option (List gD × Int)}{rec_l28Normal:gH→(List jD)→gD→Int→Option (gD × Int)}(hrec_l28All:∀(x0:gH) (x1:List jD) (x2:List gD) (x3:Int) {r:List gD × Int},rec_l28All x0 x1 x2 x3=some r→jB Tryz.prog 108 [.d (kT x0),.L 4 (jT x1),.L 3 (gJ x2),.I x3] [.sl 3 (gJ r.1),.i .i64 r.2])(hrec_l28Normal:∀(x0:gH) (x1:List jD) (x2:gD) (x3:Int) {r:gD × Int},rec_l28Normal x0 x1 x2 x3=some r→jB Tryz.prog 91 [.d (kT x0),.L 4 (jT x1),.d (jP x2),.I x3] [jP r.1,.i .i64 r.2])(a0:gH)(a1:List jD)(a2:gD)(a3:Int){r:gD × Int}(h:gEr rec_l28All rec_l28Normal a0 a1 a2 a3=some r):jB Tryz.prog 91 [.d (kT a0),.L 4 (jT a1),.d (jP a2),.I a3] [jP r.1,.i .i64 r.2]:=by
 obtain⟨a0_0⟩:=a0
 obtain⟨a2_0,a2_1,a2_2⟩:=a2
 unfold gEr at h
 refine SpI Tryz.func91 fun A _=>?_
 refine goL ?_
 obtain⟨⟨x1_0,x1_1⟩,hx1,h⟩:=gK h
 refine jI (gF (hrec_l28All (gH.mk a0_0) a1 a2_2 a3 hx1)) ?_
 refine mO (fun c2=>?_) (fun c2=>?_)
 ·replace h:=gX c2 h
  refine goL ?_
  refine gA6 (kD TBd.h TZ.h rfl (by repeat constructor)) ?_
  exact goR h
 ·replace h:=gY c2 h
  refine goS ?_
  refine gFl (kD TBd.h TZ.h rfl (by repeat constructor)) ?_
  refine jI (gF (gG9 (gD.mk a2_0 a2_1 x1_0))) ?_
  refine mO (fun c3=>?_) (fun c3=>?_)
  ·replace h:=gX c3 h
   refine goL ?_
   refine gA6 (kD TBd.h TZ.h rfl (by repeat constructor)) ?_
   exact goR h
  ·replace h:=gY c3 h
   refine goS ?_
   obtain⟨b4,hb4,h⟩:=qR h
   refine jU ⟨[(1,.L 4 (jT a1)),(3,.I a3),(4,.ptr 0 0),(6,.ptr 1 0),(8,.ptr 2 0),(10,.L 3 (gJ x1_0)),(12,.ptr 3 0),(47,.B b4)],[.box [.L 6 (kN a0_0)],.box [.I a2_0,.S a2_1,.L 3 (gJ a2_2)],.box [.I 0,.S [],.nilsl],.box [.I a2_0,.S a2_1,.L 3 (gJ x1_0)]],Tryz.f91.ntmps⟩ ?_ ?_
   ·refine gN 43 (fun c5=>?_) (fun c5=>?_) (by first | rfl | (simp only [jG,gU];rfl))
    ·replace hb4:=gX c5 hb4
     refine goL ?_
     cases hb4
     exact⟨rfl,⟨⟨rfl,rfl⟩,⟨rfl,rfl⟩,⟨rfl,rfl⟩,⟨rfl,rfl⟩,⟨rfl,rfl⟩,⟨rfl,rfl⟩,⟨rfl,rfl⟩,⟨by first | rfl | (simp only [jG,gU];rfl),rfl⟩,trivial⟩,⟨_,rfl⟩,rfl⟩
    ·replace hb4:=gY c5 hb4
     refine goL ?_
     cases hb4
     exact⟨rfl,⟨⟨rfl,rfl⟩,⟨rfl,rfl⟩,⟨rfl,rfl⟩,⟨rfl,rfl⟩,⟨rfl,rfl⟩,⟨rfl,rfl⟩,⟨rfl,rfl⟩,⟨by first | rfl | (simp only [jG,gU];rfl),rfl⟩,trivial⟩,⟨_,rfl⟩,rfl⟩
   refine goC h ?_ ?_<;>intro c6 h
   ·exact goR h
   ·refine goS ?_
    refine mO (fun c7=>?_) (fun c7=>?_)
    ·replace h:=gX c7 h
     refine goL ?_
     refine gA6 (kD TBd.h TZ.h rfl (by repeat constructor)) ?_
     exact goR h
    ·replace h:=gY c7 h
     refine noS ?_
     refine jL (P:=Tryz.prog) Mix.h [(0,true),(1,true),(2,true),(3,true),(4,true),(5,true),(6,true),(7,true),(8,true),(9,true),(10,true),(11,true),(12,false),(13,false),(14,true)] (by kernel_rfl) ?_
     refine goY ?_
     obtain⟨x8,hx8,h⟩:=gK h
     obtain⟨hx80,hx8⟩:=gD6 hx8
     obtain⟨x8_0,x8_1,x8_2⟩:=x8
     refine jC rfl (qU hx80 (gBb hx8)) ?_
     refine goY ?_
     obtain⟨⟨⟨x9_0_0,x9_0_1,⟨x9_0_2_0,x9_0_2_1⟩,x9_0_3⟩,x9_1⟩,hx9,h⟩:=gK h
     refine jC rfl (gF (gZn (gH.mk a0_0) a1 (jD.mk a2_1 (gD.mk x8_0 x8_1 x8_2)) hx9)) ?_
     refine goY ?_
     refine kS ?_
     refine goC h ?_ ?_<;>intro c10 h
     ·refine goL ?_
      refine gA6 (kD TBd.h TZ.h rfl (by repeat constructor)) ?_
      exact goR h
     ·refine goS ?_
      refine mO (fun c11=>?_) (fun c11=>?_)
      ·replace h:=gX c11 h
       exact goR h
      ·replace h:=gY c11 h
       refine noS ?_
       refine jL (P:=Tryz.prog) Mix.h [(0,true),(1,true),(2,true),(3,true),(4,true),(5,true),(6,true),(7,true),(8,true),(9,true),(10,false),(11,false),(12,true)] (by kernel_rfl) ?_
       refine goY ?_
       refine jC rfl (qU hx80 (gBb hx8)) ?_
       refine goY ?_
       obtain⟨⟨⟨x12_0_0,x12_0_1,x12_0_2⟩,x12_1⟩,hx12,h⟩:=gK h
       refine jC rfl (gF (gN1 (gH.mk a0_0) (gT.mk x9_0_2_0 x9_0_2_1) (gD.mk x8_0 x8_1 x8_2) hx12)) ?_
       refine goY ?_
       refine kS ?_
       refine goC h ?_ ?_<;>intro c13 h
       ·refine goL ?_
        refine gA6 (kD TBd.h TZ.h rfl (by repeat constructor)) ?_
        exact goR h
       ·refine goS ?_
        refine qP (qC) ?_
        obtain⟨⟨⟨x14_0_0,x14_0_1,x14_0_2⟩,x14_1⟩,hx14,h⟩:=gK h
        refine qP (gF (hrec_l28Normal (gH.mk a0_0) a1 (gD.mk x12_0_0 x12_0_1 x12_0_2) (IntKind.i64.wrap (a3 - 1)) hx14)) ?_
        exact goR h
mutual
def gGp:Nat→gH→(List jD)→(List gD)→Int→Option (List gD × Int)
 | 0,_,_,_,_=>none
 | n+1,x0,x1,x2,x3=>gOt (gGp n) (wH n) x0 x1 x2 x3
def wH:Nat→gH→(List jD)→gD→Int→Option (gD × Int)
 | 0,_,_,_,_=>none
 | n+1,x0,x1,x2,x3=>gEr (gGp n) (wH n) x0 x1 x2 x3
end
theorem gV9:∀(n:Nat),(∀(x0:gH) (x1:List jD) (x2:List gD) (x3:Int) {r:List gD × Int},gGp n x0 x1 x2 x3=some r→jB Tryz.prog 108 [.d (kT x0),.L 4 (jT x1),.L 3 (gJ x2),.I x3] [.sl 3 (gJ r.1),.i .i64 r.2])∧(∀(x0:gH) (x1:List jD) (x2:gD) (x3:Int) {r:gD × Int},wH n x0 x1 x2 x3=some r→jB Tryz.prog 91 [.d (kT x0),.L 4 (jT x1),.d (jP x2),.I x3] [jP r.1,.i .i64 r.2]):=by
 intro n
 induction n with
 | zero=>exact⟨(by intro x0 x1 x2 x3 r h;cases h),(by intro x0 x1 x2 x3 r h;cases h)⟩
 | succ n ih=>
   obtain⟨ih0,ih1⟩:=ih
   refine⟨(fun x0 x1 x2 x3 r h=>gZo ih0 ih1 x0 x1 x2 x3 h),(fun x0 x1 x2 x3 r h=>gR5 ih0 ih1 x0 x1 x2 x3 h)⟩
theorem gR6:∀(n:Nat) (x0:gH) (x1:List jD) (x2:gD) (x3:Int) {r:gD × Int},wH n x0 x1 x2 x3=some r→jB Tryz.prog 91 [.d (kT x0),.L 4 (jT x1),.d (jP x2),.I x3] [jP r.1,.i .i64 r.2]:=fun n=>(gV9 n).2
def gEt(a1:List (List UInt8)):List gD→Option (Bool)
 | []=>(some true)
 | x4::xs=>bnd (gB0 x4 a1) fun x5=>
(cnd (!x5) (
(some false)) (
gEt a1 xs ))
def gLi(a0:List gD)(a1:List (List UInt8)):Option (Bool):=
gEt a1 a0
theorem gTa(a0:List gD)(a1:List (List UInt8)){r:Bool}(h:gLi a0 a1=some r):jB Tryz.prog 150 [.L 3 (gJ a0),.L 1 (gZ a1)] [.b r]:=by
 unfold gLi at h
 refine SpI Tryz.func150 fun A _=>?_
 refine goL ?_
 refine noB ?_
 refine gFj 0 (fun z2=>?_)
 refine pJ (fun(y1:Nat)=>⟨[(0,.L 3 (gJ a0)),(1,.L 1 (gZ a1)),(5,.N y1)],[],Tryz.f150.ntmps⟩) (fun y1=>gEt a1 (a0.drop y1)  =some r) (fun y1=>a0.length - y1) 0 eJ h ?_
 rintro y1 h
 refine goL ?_
 refine mO (fun c3=>?_) (fun c3=>?_)
 ·have hky12:=wE c3
  obtain⟨x4,hx4,hdx4⟩:=drop_at hky12
  rw [hdx4,gEt.eq_2] at h
  obtain⟨x4_0,x4_1,x4_2⟩:=x4
  refine noS ?_
  refine kI (jE ?_)
  refine goL ?_
  refine jI (jJ y1 (gBb hx4)) ?_
  obtain⟨x5,hx5,h⟩:=gK h
  refine jI (gF (gEp (gD.mk x4_0 x4_1 x4_2) a1 hx5)) ?_
  refine mO (fun c6=>?_) (fun c6=>?_)
  ·replace h:=gX c6 h
   exact goR h
  ·replace h:=gY c6 h
   refine goS ?_
   refine jI (jS y1 (by omega)) ?_
   exact⟨(y1+1),h,by omega,eJ⟩
 ·have hky12:=wF c3
  rw [jF hky12,gEt.eq_1] at h
  refine goX ?_
  refine jN ?_
  cases h
  exact qK
def gF4(a0:jM):Option (Bool):=
bnd (gMe 5000 a0 300) fun x1=>
bnd ((cnd (decide (x1≥0)) (bnd (gL2 5000 a0) fun x4=>
(some x4)) ((some false)))) fun b2=>
(some b2)
theorem gNt(a0:jM){r:Bool}(h:gF4 a0=some r):jB Tryz.prog 172 [.d (yR a0)] [.b r]:=by
 obtain⟨a0_0,a0_1,a0_2,a0_3,⟨a0_4_0,a0_4_1,a0_4_2⟩,a0_5,a0_6⟩:=a0
 unfold gF4 at h
 refine SpI Tryz.func172 fun A _=>?_
 refine goL ?_
 obtain⟨x1,hx1,h⟩:=gK h
 refine jI (gF (gWj 5000 (jM.mk a0_0 a0_1 a0_2 a0_3 (gD.mk a0_4_0 a0_4_1 a0_4_2) a0_5 a0_6) 300 hx1)) ?_
 obtain⟨b2,hb2,h⟩:=gK h
 refine jU ⟨[(2,.B b2)],[.box [.I a0_0,.S a0_1,.S a0_2,.I a0_3,.I a0_4_0,.S a0_4_1,.L 3 (gJ a0_4_2),.L 9 (kP a0_5),.L 11 (qD a0_6)]],Tryz.f172.ntmps⟩ ?_ ?_
 ·refine gN 6 (fun c3=>?_) (fun c3=>?_)
  ·replace hb2:=gX c3 hb2
   refine goL ?_
   refine uD ?_
   obtain⟨x4,hx4,hb2⟩:=gK hb2
   refine jI (gF (gV8 5000 (jM.mk a0_0 a0_1 a0_2 a0_3 (gD.mk a0_4_0 a0_4_1 a0_4_2) a0_5 a0_6) hx4)) ?_
   cases hb2
   exact eJ
  ·replace hb2:=gY c3 hb2
   refine goL ?_
   cases hb2
   exact eJ
 exact goR h
def gB1(a0:List jD)(a1:List (List UInt8)):List jD→Option (Bool)
 | []=>(some (decide ((a0.length:Int)≤4)))
 | x4::xs=>bnd (gEq x4) fun x5=>
bnd ((cnd (!x5) ((some true)) (bnd (gB0 x4.type_ a1) fun x8=>
(cnd (!x8) ((some true)) (bnd (gBh 5000 x4.type_) fun x10=>
(some x10)))))) fun b6=>
(cnd b6 (
(some false)) (
gB1 a0 a1 xs ))
def gIb(a0:List jD)(a1:List (List UInt8)):Option (Bool):=
gB1 a0 a1 a0
theorem gN4(a0:List jD)(a1:List (List UInt8)){r:Bool}(h:gIb a0 a1=some r):jB Tryz.prog 153 [.L 4 (jT a0),.L 1 (gZ a1)] [.b r]:=by
 unfold gIb at h
 refine SpI Tryz.func153 fun A _=>?_
 refine goL ?_
 refine noB ?_
 refine gFj 0 (fun z2=>?_)
 refine pJ (fun(y1:Nat)=>⟨[(0,.L 4 (jT a0)),(1,.L 1 (gZ a1)),(5,.N y1)],[],Tryz.f153.ntmps⟩) (fun y1=>gB1 a0 a1 (a0.drop y1)  =some r) (fun y1=>a0.length - y1) 0 eJ h ?_
 rintro y1 h
 refine goL ?_
 refine mO (fun c3=>?_) (fun c3=>?_)
 ·have hky12:=wE c3
  obtain⟨x4,hx4,hdx4⟩:=drop_at hky12
  rw [hdx4,gB1.eq_2] at h
  obtain⟨x4_0,⟨x4_1_0,x4_1_1,x4_1_2⟩⟩:=x4
  refine noS ?_
  refine kI (jE ?_)
  refine goL ?_
  refine jI (jJ y1 (gHf hx4)) ?_
  obtain⟨x5,hx5,h⟩:=gK h
  refine jI (gF (gL3 (jD.mk x4_0 (gD.mk x4_1_0 x4_1_1 x4_1_2)) hx5)) ?_
  obtain⟨b6,hb6,h⟩:=gK h
  refine jU ⟨[(0,.L 4 (jT a0)),(1,.L 1 (gZ a1)),(5,.N y1),(35,.B b6)],[],Tryz.f153.ntmps⟩ ?_ ?_
  ·refine gN 18 (fun c7=>?_) (fun c7=>?_)
   ·replace hb6:=gX c7 hb6
    refine goL ?_
    cases hb6
    exact eJ
   ·replace hb6:=gY c7 hb6
    refine goL ?_
    refine uD ?_
    refine jI (jJ y1 (gHf hx4)) ?_
    refine uD ?_
    obtain⟨x8,hx8,hb6⟩:=gK hb6
    refine jI (gF (gEp (gD.mk x4_1_0 x4_1_1 x4_1_2) a1 hx8)) ?_
    refine gN 28 (fun c9=>?_) (fun c9=>?_)
    ·replace hb6:=gX c9 hb6
     refine goL ?_
     cases hb6
     exact eJ
    ·replace hb6:=gY c9 hb6
     refine goL ?_
     refine uD ?_
     refine jI (jJ y1 (gHf hx4)) ?_
     refine uD ?_
     obtain⟨x10,hx10,hb6⟩:=gK hb6
     refine jI (gF (gHc 5000 (gD.mk x4_1_0 x4_1_1 x4_1_2) hx10)) ?_
     cases hb6
     exact eJ
  refine goC h ?_ ?_<;>intro c11 h
  ·exact goR h
  ·refine goS ?_
   refine jI (jS y1 (by omega)) ?_
   exact⟨(y1+1),h,by omega,eJ⟩
 ·have hky12:=wF c3
  rw [jF hky12,gB1.eq_1] at h
  refine goX ?_
  refine jN ?_
  cases h
  exact qK
end Go.Proofs.YtfaplndgbgoaaaaGreatDoor
