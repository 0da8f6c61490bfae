import Derived.Test.YtfaplndgbgoaaaaGreatDoorEng38
import Derived.Test.YtfaplndgbgoaaaaGreatDoorEng67
import Derived.Test.YtfaplndgbgoaaaaGreatDoorSfi0
import Derived.Test.YtfaplndgbgoaaaaGreatDoorB11
import Derived.Test.YtfaplndgbgoaaaaGreatDoorB2
import Derived.Test.YtfaplndgbgoaaaaGreatDoorB3
import Derived.Test.YtfaplndgbgoaaaaGreatDoorB5
import Derived.Test.YtfaplndgbgoaaaaGreatDoorB9
set_option maxHeartbeats 4000000
set_option linter.unusedVariables false
set_option linter.unusedSimpArgs false
set_option linter.unusedSectionVars false
namespace Go.Proofs.YtfaplndgbgoaaaaGreatDoor
open Go Go.Eng
attribute [local irreducible] V VO VQ VY Quiet QR jB kX Rng uJ uY qW
def gJl(a0:gH)(a1:List jD)(a2:jD):Option (gV × Int):=
bnd (gC3 a0 a1) fun x1=>
bnd (zP 5000 a0 x1 a2 12) fun x2=>
(some (x2.1,x2.2))
theorem gZn(a0:gH)(a1:List jD)(a2:jD){r:gV × Int}(h:gJl a0 a1 a2=some r):jB Tryz.prog 109 [.d (kT a0),.L 4 (jT a1),.d (gAh a2)] [mY r.1,.i .i64 r.2]:=by
 obtain⟨a0_0⟩:=a0
 obtain⟨a2_0,⟨a2_1_0,a2_1_1,a2_1_2⟩⟩:=a2
 unfold gJl at h
 refine SpI Tryz.func109 fun A _=>?_
 refine gHk ?_
 refine jL (P:=Tryz.prog) Mix.h [(0,true),(1,true),(2,true),(3,true),(4,true),(5,true),(6,true),(7,true),(8,false),(9,true)] (by kernel_rfl) ?_
 refine goY ?_
 obtain⟨x1,hx1,h⟩:=gK h
 refine jC rfl (gF (gNs (gH.mk a0_0) a1 hx1)) ?_
 refine goY ?_
 obtain⟨⟨⟨x2_0_0,x2_0_1,⟨x2_0_2_0,x2_0_2_1⟩,x2_0_3⟩,x2_1⟩,hx2,h⟩:=gK h
 refine jC rfl (gF (gU2 5000 (gH.mk a0_0) x1 (jD.mk a2_0 (gD.mk a2_1_0 a2_1_1 a2_1_2)) 12 hx2)) ?_
 refine goY ?_
 refine kS ?_
 exact goR h
def gBz(a0:List UInt8):Option (gB × Bool):=
bnd (gAa 5000 (uE.mk a0 0 0 0 false)) fun x1=>
bnd (gKy x1.2) fun x2=>
bnd ((cnd x2.bad ((some true)) ((cnd (x2.at_ !=(a0.length:Int)) ((some true)) (bnd (pW x1.1) fun x6=>
(some (!x6))))))) fun b3=>
(cnd b3 (
(some ((gB.mk [] []),false))) (
(some (x1.1,true))))
theorem gOr(a0:List UInt8){r:gB × Bool}(h:gBz a0=some r):jB Tryz.prog 64 [.S a0] [mF r.1,.b r.2]:=by
 unfold gBz at h
 refine SpI Tryz.func64 fun A _=>?_
 refine goL ?_
 refine gFl (kD TBd.h TZ.h rfl (by repeat constructor)) ?_
 obtain⟨⟨⟨x1_0_0,x1_0_1⟩,⟨x1_1_0,x1_1_1,x1_1_2,x1_1_3,x1_1_4⟩⟩,hx1,h⟩:=gK h
 refine zI 1 (gZ3 5000 (uE.mk a0 0 0 0 false) hx1) ?_
 refine goL ?_
 obtain⟨⟨x2_0,x2_1,x2_2,x2_3,x2_4⟩,hx2,h⟩:=gK h
 refine zI 1 (gPt (uE.mk x1_1_0 x1_1_1 x1_1_2 x1_1_3 x1_1_4) hx2) ?_
 refine goL ?_
 obtain⟨b3,hb3,h⟩:=gK h
 refine jU ⟨[(2,.ptr 0 0),(5,.ptr 2 0),(30,.B b3)],[.box [.S [],.nilsl],.box [.S x2_0,.I x2_1,.I x2_2,.I x2_3,.B x2_4],.box [.S x1_0_0,.L 2 (gM x1_0_1)]],Tryz.f64.ntmps⟩ ?_ ?_
 ·refine gN 17 (fun c4=>?_) (fun c4=>?_)
  ·replace hb3:=gX c4 hb3
   refine goL ?_
   cases hb3
   exact eJ
  ·replace hb3:=gY c4 hb3
   refine goL ?_
   refine gN 26 (fun c5=>?_) (fun c5=>?_)
   ·replace hb3:=gX c5 hb3
    refine goL ?_
    cases hb3
    exact eJ
   ·replace hb3:=gY c5 hb3
    refine goL ?_
    refine uD ?_
    obtain⟨x6,hx6,hb3⟩:=gK hb3
    refine jI (gF (wG (gB.mk x1_0_0 x1_0_1) hx6)) ?_
    cases hb3
    exact eJ
 refine goC h ?_ ?_<;>intro c7 h
 ·refine goL ?_
  refine gA6 (kD TBd.h TZ.h rfl (by repeat constructor)) ?_
  exact goR h
 ·refine goS ?_
  refine jN ?_
  cases h
  exact qK
def gC8(a0:gD)(a1:List (List UInt8)):List (List UInt8)→Option (Bool)
 | []=>bnd (vS a0) fun x7=>
(some x7)
 | x5::xs=>(cnd (!(vQ a1 x5)) (
(some false)) (
gC8 a0 a1 xs ))
def gB0(a0:gD)(a1:List (List UInt8)):Option (Bool):=
bnd (gDz a0) fun x1=>
gC8 a0 a1 x1
theorem gEp(a0:gD)(a1:List (List UInt8)){r:Bool}(h:gB0 a0 a1=some r):jB Tryz.prog 151 [.d (jP a0),.L 1 (gZ a1)] [.b r]:=by
 obtain⟨a0_0,a0_1,a0_2⟩:=a0
 unfold gB0 at h
 refine SpI Tryz.func151 fun A _=>?_
 refine goL ?_
 obtain⟨x1,hx1,h⟩:=gK h
 refine jI (gF (gLe (gD.mk a0_0 a0_1 a0_2) hx1)) ?_
 refine noB ?_
 refine gFj 5 (fun z3=>?_)
 refine pJ (fun(y2:Nat)=>⟨[(1,.L 1 (gZ a1)),(2,.ptr 0 0),(5,.L 1 (gZ x1)),(6,.N y2)],[.box [.I a0_0,.S a0_1,.L 3 (gJ a0_2)]],Tryz.f151.ntmps⟩) (fun y2=>gC8 (gD.mk a0_0 a0_1 a0_2) a1 (x1.drop y2)  =some r) (fun y2=>x1.length - y2) 0 eJ h ?_
 rintro y2 h
 refine goL ?_
 refine mO (fun c4=>?_) (fun c4=>?_)
 ·have hky22:=wE c4
  obtain⟨x5,hx5,hdx5⟩:=drop_at hky22
  rw [hdx5,gC8.eq_2] at h
  refine noS ?_
  refine kI (jE ?_)
  refine goL ?_
  refine jI (jJ y2 (gOe hx5)) ?_
  refine jI (gF (gDy a1 x5)) ?_
  refine mO (fun c6=>?_) (fun c6=>?_)
  ·replace h:=gX c6 h
   exact goR h
  ·replace h:=gY c6 h
   refine goS ?_
   refine jI (jS y2 (by omega)) ?_
   exact⟨(y2+1),h,by omega,eJ⟩
 ·have hky22:=wF c4
  rw [jF hky22,gC8.eq_1] at h
  refine goX ?_
  obtain⟨x7,hx7,h⟩:=gK h
  refine qP (gF (zQ (gD.mk a0_0 a0_1 a0_2) hx7)) ?_
  exact goR h
def gC9(rec_l11Form:jM→Option (Bool)):List gJa→Option (Bool)
 | []=>(some true)
 | x65::xs=>bnd ((cnd (!(kW x65.constructor)) ((some true)) ((cnd (!(gHz x65.vars)) ((some true)) (bnd (vT x65.vars) fun x69=>
(cnd (!x69) ((some true)) (bnd (rec_l11Form x65.body) fun x71=>
(some (!x71))))))))) fun b66=>
(cnd b66 (
(some false)) (
gC9 rec_l11Form xs ))
def gDa(rec_l11Form:jM→Option (Bool))(a0:jM):List jM→Option (Bool)
 | []=>gC9 rec_l11Form a0.arms
 | x59::xs=>bnd (rec_l11Form x59) fun x60=>
(cnd (!x60) (
(some false)) (
gDa rec_l11Form a0 xs ))
def gL1(rec_l11Form:jM→Option (Bool))(a0:jM):Option (Bool):=
lt_ (gEc a0.kind) fun x1=>
lt_ ((cnd (!(gFe a0.kind 1 12)) (true) ((cnd (!((kW a0.trait)==x1.1)) (true) ((cnd (!x1.1) ((cnd (!(a0.trait==[])) (true) ((cnd (!x1.2.2.1) ((cnd (a0.n != 0) (true) ((!((decide ((a0.arms.length:Int) > 0))==x1.2.2.2.2.2))))) ((!((decide ((a0.arms.length:Int) > 0))==x1.2.2.2.2.2))))))) ((cnd (!x1.2.2.1) ((cnd (a0.n != 0) (true) ((!((decide ((a0.arms.length:Int) > 0))==x1.2.2.2.2.2))))) ((!((decide ((a0.arms.length:Int) > 0))==x1.2.2.2.2.2))))))))))) fun b2=>
(cnd b2 (
(some false)) (
lt_ ((cnd (a0.kind==10) ((cnd (!(gJv a0.name)) (true) ((cnd (a0.kind != 10) ((cnd (!((kW a0.name)==x1.2.1)) (true) ((cnd (!x1.2.1) ((!(a0.name==[]))) (false))))) (false))))) ((cnd (a0.kind != 10) ((cnd (!((kW a0.name)==x1.2.1)) (true) ((cnd (!x1.2.1) ((!(a0.name==[]))) (false))))) (false))))) fun b12=>
(cnd b12 (
(some false)) (
bnd ((cnd (decide (x1.2.2.2.2.1≥0)) ((cnd ((a0.args.length:Int) != x1.2.2.2.2.1) ((some true)) ((cnd (a0.kind==5) ((cnd ((a0.args.length:Int)==0) ((some true)) ((cnd x1.2.2.2.1 (bnd (vS a0.type_) fun x28=>
(cnd (!x28) ((some true)) ((cnd (!x1.2.2.2.1) ((some (!(yN a0.type_)))) ((some false)))))) ((cnd (!x1.2.2.2.1) ((some (!(yN a0.type_)))) ((some false)))))))) ((cnd x1.2.2.2.1 (bnd (vS a0.type_) fun x33=>
(cnd (!x33) ((some true)) ((cnd (!x1.2.2.2.1) ((some (!(yN a0.type_)))) ((some false)))))) ((cnd (!x1.2.2.2.1) ((some (!(yN a0.type_)))) ((some false)))))))))) ((cnd (a0.kind==5) ((cnd ((a0.args.length:Int)==0) ((some true)) ((cnd x1.2.2.2.1 (bnd (vS a0.type_) fun x40=>
(cnd (!x40) ((some true)) ((cnd (!x1.2.2.2.1) ((some (!(yN a0.type_)))) ((some false)))))) ((cnd (!x1.2.2.2.1) ((some (!(yN a0.type_)))) ((some false)))))))) ((cnd x1.2.2.2.1 (bnd (vS a0.type_) fun x45=>
(cnd (!x45) ((some true)) ((cnd (!x1.2.2.2.1) ((some (!(yN a0.type_)))) ((some false)))))) ((cnd (!x1.2.2.2.1) ((some (!(yN a0.type_)))) ((some false)))))))))) fun b22=>
(cnd b22 (
(some false)) (
lt_ ((cnd (a0.kind==1) ((cnd (!(gFe a0.n (-999999) 999999)) (true) ((cnd (a0.kind==2) ((!(gFe a0.n 0 1))) (false))))) ((cnd (a0.kind==2) ((!(gFe a0.n 0 1))) (false))))) fun b50=>
(cnd b50 (
(some false)) (
gDa rec_l11Form a0 a0.args ))))))))
theorem gV7{rec_l11Form:jM→Option (Bool)}(hrec_l11Form:∀(x0:jM) {r:Bool},rec_l11Form x0=some r→jB Tryz.prog 188 [.d (yR x0)] [.b r])(a0:jM){r:Bool}(h:gL1 rec_l11Form a0=some r):jB Tryz.prog 188 [.d (yR a0)] [.b r]:=by
 obtain⟨a0_0,a0_1,a0_2,a0_3,⟨a0_4_0,a0_4_1,a0_4_2⟩,a0_5,a0_6⟩:=a0
 unfold gL1 at h
 refine SpI Tryz.func188 fun A _=>?_
 refine goL ?_
 obtain⟨⟨x1_0,x1_1,x1_2,x1_3,x1_4,x1_5⟩,hx1,h⟩:=qR h
 have sx1:=gZ1 a0_0
 rw [hx1] at sx1
 refine jI (gF (sx1)) ?_
 refine jI (gF (gLb a0_0 1 12)) ?_
 obtain⟨b2,hb2,h⟩:=qR h
 refine jU ⟨[(1,.ptr 0 0),(4,.B x1_1),(6,.B x1_3),(7,.I x1_4),(58,.B b2)],[.box [.I a0_0,.S a0_1,.S a0_2,.I a0_3,.I a0_4_0,.S a0_4_1,.L 3 (gJ a0_4_2),.L 9 (kP a0_5),.L 11 (qD a0_6)]],Tryz.f188.ntmps⟩ ?_ ?_
 ·refine gN 26 (fun c3=>?_) (fun c3=>?_)
  ·replace hb2:=gX c3 hb2
   refine goL ?_
   cases hb2
   exact eJ
  ·replace hb2:=gY c3 hb2
   refine goL ?_
   refine uD ?_
   refine jI (gF (pK a0_1)) ?_
   refine gN 33 (fun c4=>?_) (fun c4=>?_)
   ·replace hb2:=gX c4 hb2
    refine goL ?_
    cases hb2
    exact eJ
   ·replace hb2:=gY c4 hb2
    refine goL ?_
    refine gN 36 (fun c5=>?_) (fun c5=>?_)
    ·replace hb2:=gX c5 hb2
     refine goL ?_
     refine gN 42 (fun c6=>?_) (fun c6=>?_)
     ·replace hb2:=gX c6 hb2
      refine goL ?_
      cases hb2
      exact eJ
     ·replace hb2:=gY c6 hb2
      refine goL ?_
      refine gN 45 (fun c7=>?_) (fun c7=>?_)
      ·replace hb2:=gX c7 hb2
       refine goL ?_
       refine gN 51 (fun c8=>?_) (fun c8=>?_)
       ·replace hb2:=gX c8 hb2
        refine goL ?_
        cases hb2
        exact eJ
       ·replace hb2:=gY c8 hb2
        refine goL ?_
        cases hb2
        exact eJ
      ·replace hb2:=gY c7 hb2
       refine goL ?_
       cases hb2
       exact eJ
    ·replace hb2:=gY c5 hb2
     refine goL ?_
     refine gN 45 (fun c9=>?_) (fun c9=>?_)
     ·replace hb2:=gX c9 hb2
      refine goL ?_
      refine gN 51 (fun c10=>?_) (fun c10=>?_)
      ·replace hb2:=gX c10 hb2
       refine goL ?_
       cases hb2
       exact eJ
      ·replace hb2:=gY c10 hb2
       refine goL ?_
       cases hb2
       exact eJ
     ·replace hb2:=gY c9 hb2
      refine goL ?_
      cases hb2
      exact eJ
 refine goC h ?_ ?_<;>intro c11 h
 ·exact goR h
 ·refine goS ?_
  obtain⟨b12,hb12,h⟩:=qR h
  refine jU ⟨[(1,.ptr 0 0),(6,.B x1_3),(7,.I x1_4),(88,.B b12)],[.box [.I a0_0,.S a0_1,.S a0_2,.I a0_3,.I a0_4_0,.S a0_4_1,.L 3 (gJ a0_4_2),.L 9 (kP a0_5),.L 11 (qD a0_6)]],Tryz.f188.ntmps⟩ ?_ ?_
  ·refine gN 62 (fun c13=>?_) (fun c13=>?_)
   ·replace hb12:=gX c13 hb12
    refine goL ?_
    refine uD ?_
    refine jI (gF (gWk a0_2)) ?_
    refine gN 68 (fun c14=>?_) (fun c14=>?_)
    ·replace hb12:=gX c14 hb12
     refine goL ?_
     cases hb12
     exact eJ
    ·replace hb12:=gY c14 hb12
     refine goL ?_
     refine gN 72 (fun c15=>?_) (fun c15=>?_)
     ·replace hb12:=gX c15 hb12
      refine goL ?_
      refine uD ?_
      refine jI (gF (pK a0_2)) ?_
      refine gN 78 (fun c16=>?_) (fun c16=>?_)
      ·replace hb12:=gX c16 hb12
       refine goL ?_
       cases hb12
       exact eJ
      ·replace hb12:=gY c16 hb12
       refine goL ?_
       refine gN 81 (fun c17=>?_) (fun c17=>?_)
       ·replace hb12:=gX c17 hb12
        refine goL ?_
        cases hb12
        exact eJ
       ·replace hb12:=gY c17 hb12
        refine goL ?_
        cases hb12
        exact eJ
     ·replace hb12:=gY c15 hb12
      refine goL ?_
      cases hb12
      exact eJ
   ·replace hb12:=gY c13 hb12
    refine goL ?_
    refine gN 72 (fun c18=>?_) (fun c18=>?_)
    ·replace hb12:=gX c18 hb12
     refine goL ?_
     refine uD ?_
     refine jI (gF (pK a0_2)) ?_
     refine gN 78 (fun c19=>?_) (fun c19=>?_)
     ·replace hb12:=gX c19 hb12
      refine goL ?_
      cases hb12
      exact eJ
     ·replace hb12:=gY c19 hb12
      refine goL ?_
      refine gN 81 (fun c20=>?_) (fun c20=>?_)
      ·replace hb12:=gX c20 hb12
       refine goL ?_
       cases hb12
       exact eJ
      ·replace hb12:=gY c20 hb12
       refine goL ?_
       cases hb12
       exact eJ
    ·replace hb12:=gY c18 hb12
     refine goL ?_
     cases hb12
     exact eJ
  refine goC h ?_ ?_<;>intro c21 h
  ·exact goR h
  ·refine goS ?_
   obtain⟨b22,hb22,h⟩:=gK h
   refine jU ⟨[(1,.ptr 0 0),(127,.B b22)],[.box [.I a0_0,.S a0_1,.S a0_2,.I a0_3,.I a0_4_0,.S a0_4_1,.L 3 (gJ a0_4_2),.L 9 (kP a0_5),.L 11 (qD a0_6)]],Tryz.f188.ntmps⟩ ?_ ?_
   ·refine gN 91 (fun c23=>?_) (fun c23=>?_)
    ·replace hb22:=gX c23 hb22
     refine goL ?_
     refine gN 98 (fun c24=>?_) (fun c24=>?_)
     ·replace hb22:=gX c24 hb22
      refine goL ?_
      cases hb22
      exact eJ
     ·replace hb22:=gY c24 hb22
      refine goL ?_
      refine gN 102 (fun c25=>?_) (fun c25=>?_)
      ·replace hb22:=gX c25 hb22
       refine goL ?_
       refine gN 109 (fun c26=>?_) (fun c26=>?_)
       ·replace hb22:=gX c26 hb22
        refine goL ?_
        cases hb22
        exact eJ
       ·replace hb22:=gY c26 hb22
        refine goL ?_
        refine gN 111 (fun c27=>?_) (fun c27=>?_)
        ·replace hb22:=gX c27 hb22
         refine goL ?_
         refine uD ?_
         obtain⟨x28,hx28,hb22⟩:=gK hb22
         refine jI (gF (zQ (gD.mk a0_4_0 a0_4_1 a0_4_2) hx28)) ?_
         refine gN 118 (fun c29=>?_) (fun c29=>?_)
         ·replace hb22:=gX c29 hb22
          refine goL ?_
          cases hb22
          exact eJ
         ·replace hb22:=gY c29 hb22
          refine goL ?_
          refine gN 121 (fun c30=>?_) (fun c30=>?_)
          ·replace hb22:=gX c30 hb22
           refine goL ?_
           refine uD ?_
           refine jI (gF (gBa (gD.mk a0_4_0 a0_4_1 a0_4_2))) ?_
           cases hb22
           exact eJ
          ·replace hb22:=gY c30 hb22
           refine goL ?_
           cases hb22
           exact eJ
        ·replace hb22:=gY c27 hb22
         refine goL ?_
         refine gN 121 (fun c31=>?_) (fun c31=>?_)
         ·replace hb22:=gX c31 hb22
          refine goL ?_
          refine uD ?_
          refine jI (gF (gBa (gD.mk a0_4_0 a0_4_1 a0_4_2))) ?_
          cases hb22
          exact eJ
         ·replace hb22:=gY c31 hb22
          refine goL ?_
          cases hb22
          exact eJ
      ·replace hb22:=gY c25 hb22
       refine goL ?_
       refine gN 111 (fun c32=>?_) (fun c32=>?_)
       ·replace hb22:=gX c32 hb22
        refine goL ?_
        refine uD ?_
        obtain⟨x33,hx33,hb22⟩:=gK hb22
        refine jI (gF (zQ (gD.mk a0_4_0 a0_4_1 a0_4_2) hx33)) ?_
        refine gN 118 (fun c34=>?_) (fun c34=>?_)
        ·replace hb22:=gX c34 hb22
         refine goL ?_
         cases hb22
         exact eJ
        ·replace hb22:=gY c34 hb22
         refine goL ?_
         refine gN 121 (fun c35=>?_) (fun c35=>?_)
         ·replace hb22:=gX c35 hb22
          refine goL ?_
          refine uD ?_
          refine jI (gF (gBa (gD.mk a0_4_0 a0_4_1 a0_4_2))) ?_
          cases hb22
          exact eJ
         ·replace hb22:=gY c35 hb22
          refine goL ?_
          cases hb22
          exact eJ
       ·replace hb22:=gY c32 hb22
        refine goL ?_
        refine gN 121 (fun c36=>?_) (fun c36=>?_)
        ·replace hb22:=gX c36 hb22
         refine goL ?_
         refine uD ?_
         refine jI (gF (gBa (gD.mk a0_4_0 a0_4_1 a0_4_2))) ?_
         cases hb22
         exact eJ
        ·replace hb22:=gY c36 hb22
         refine goL ?_
         cases hb22
         exact eJ
    ·replace hb22:=gY c23 hb22
     refine goL ?_
     refine gN 102 (fun c37=>?_) (fun c37=>?_)
     ·replace hb22:=gX c37 hb22
      refine goL ?_
      refine gN 109 (fun c38=>?_) (fun c38=>?_)
      ·replace hb22:=gX c38 hb22
       refine goL ?_
       cases hb22
       exact eJ
      ·replace hb22:=gY c38 hb22
       refine goL ?_
       refine gN 111 (fun c39=>?_) (fun c39=>?_)
       ·replace hb22:=gX c39 hb22
        refine goL ?_
        refine uD ?_
        obtain⟨x40,hx40,hb22⟩:=gK hb22
        refine jI (gF (zQ (gD.mk a0_4_0 a0_4_1 a0_4_2) hx40)) ?_
        refine gN 118 (fun c41=>?_) (fun c41=>?_)
        ·replace hb22:=gX c41 hb22
         refine goL ?_
         cases hb22
         exact eJ
        ·replace hb22:=gY c41 hb22
         refine goL ?_
         refine gN 121 (fun c42=>?_) (fun c42=>?_)
         ·replace hb22:=gX c42 hb22
          refine goL ?_
          refine uD ?_
          refine jI (gF (gBa (gD.mk a0_4_0 a0_4_1 a0_4_2))) ?_
          cases hb22
          exact eJ
         ·replace hb22:=gY c42 hb22
          refine goL ?_
          cases hb22
          exact eJ
       ·replace hb22:=gY c39 hb22
        refine goL ?_
        refine gN 121 (fun c43=>?_) (fun c43=>?_)
        ·replace hb22:=gX c43 hb22
         refine goL ?_
         refine uD ?_
         refine jI (gF (gBa (gD.mk a0_4_0 a0_4_1 a0_4_2))) ?_
         cases hb22
         exact eJ
        ·replace hb22:=gY c43 hb22
         refine goL ?_
         cases hb22
         exact eJ
     ·replace hb22:=gY c37 hb22
      refine goL ?_
      refine gN 111 (fun c44=>?_) (fun c44=>?_)
      ·replace hb22:=gX c44 hb22
       refine goL ?_
       refine uD ?_
       obtain⟨x45,hx45,hb22⟩:=gK hb22
       refine jI (gF (zQ (gD.mk a0_4_0 a0_4_1 a0_4_2) hx45)) ?_
       refine gN 118 (fun c46=>?_) (fun c46=>?_)
       ·replace hb22:=gX c46 hb22
        refine goL ?_
        cases hb22
        exact eJ
       ·replace hb22:=gY c46 hb22
        refine goL ?_
        refine gN 121 (fun c47=>?_) (fun c47=>?_)
        ·replace hb22:=gX c47 hb22
         refine goL ?_
         refine uD ?_
         refine jI (gF (gBa (gD.mk a0_4_0 a0_4_1 a0_4_2))) ?_
         cases hb22
         exact eJ
        ·replace hb22:=gY c47 hb22
         refine goL ?_
         cases hb22
         exact eJ
      ·replace hb22:=gY c44 hb22
       refine goL ?_
       refine gN 121 (fun c48=>?_) (fun c48=>?_)
       ·replace hb22:=gX c48 hb22
        refine goL ?_
        refine uD ?_
        refine jI (gF (gBa (gD.mk a0_4_0 a0_4_1 a0_4_2))) ?_
        cases hb22
        exact eJ
       ·replace hb22:=gY c48 hb22
        refine goL ?_
        cases hb22
        exact eJ
   refine goC h ?_ ?_<;>intro c49 h
   ·exact goR h
   ·refine goS ?_
    obtain⟨b50,hb50,h⟩:=qR h
    refine jU ⟨[(1,.ptr 0 0),(147,.B b50)],[.box [.I a0_0,.S a0_1,.S a0_2,.I a0_3,.I a0_4_0,.S a0_4_1,.L 3 (gJ a0_4_2),.L 9 (kP a0_5),.L 11 (qD a0_6)]],Tryz.f188.ntmps⟩ ?_ ?_
    ·refine gN 131 (fun c51=>?_) (fun c51=>?_)
     ·replace hb50:=gX c51 hb50
      refine goL ?_
      refine uD ?_
      refine jI (gF (gLb a0_3 (-999999) 999999)) ?_
      refine gN 137 (fun c52=>?_) (fun c52=>?_)
      ·replace hb50:=gX c52 hb50
       refine goL ?_
       cases hb50
       exact eJ
      ·replace hb50:=gY c52 hb50
       refine goL ?_
       refine gN 141 (fun c53=>?_) (fun c53=>?_)
       ·replace hb50:=gX c53 hb50
        refine goL ?_
        refine uD ?_
        refine jI (gF (gLb a0_3 0 1)) ?_
        cases hb50
        exact eJ
       ·replace hb50:=gY c53 hb50
        refine goL ?_
        cases hb50
        exact eJ
     ·replace hb50:=gY c51 hb50
      refine goL ?_
      refine gN 141 (fun c54=>?_) (fun c54=>?_)
      ·replace hb50:=gX c54 hb50
       refine goL ?_
       refine uD ?_
       refine jI (gF (gLb a0_3 0 1)) ?_
       cases hb50
       exact eJ
      ·replace hb50:=gY c54 hb50
       refine goL ?_
       cases hb50
       exact eJ
    refine goC h ?_ ?_<;>intro c55 h
    ·exact goR h
    ·refine goS ?_
     refine noB ?_
     refine vN 0 7 (fun z57=>?_)
     refine pJ (fun(y56:Nat)=>⟨[(1,.ptr 0 0),(9,.N y56)],[.box [.I a0_0,.S a0_1,.S a0_2,.I a0_3,.I a0_4_0,.S a0_4_1,.L 3 (gJ a0_4_2),.L 9 (kP a0_5),.L 11 (qD a0_6)]],Tryz.f188.ntmps⟩) (fun y56=>gDa rec_l11Form (jM.mk a0_0 a0_1 a0_2 a0_3 (gD.mk a0_4_0 a0_4_1 a0_4_2) a0_5 a0_6) (a0_5.drop y56)  =some r) (fun y56=>a0_5.length - y56) 0 eJ h ?_
     rintro y56 h
     refine goL ?_
     refine mO (fun c58=>?_) (fun c58=>?_)
     ·have hky562:=wE c58
      obtain⟨x59,hx59,hdx59⟩:=drop_at hky562
      rw [hdx59,gDa.eq_2] at h
      obtain⟨x59_0,x59_1,x59_2,x59_3,⟨x59_4_0,x59_4_1,x59_4_2⟩,x59_5,x59_6⟩:=x59
      refine noS ?_
      refine kI (jE ?_)
      refine goL ?_
      refine jI (jJ y56 (gSl hx59)) ?_
      obtain⟨x60,hx60,h⟩:=gK h
      refine jI (gF (hrec_l11Form (jM.mk x59_0 x59_1 x59_2 x59_3 (gD.mk x59_4_0 x59_4_1 x59_4_2) x59_5 x59_6) hx60)) ?_
      refine mO (fun c61=>?_) (fun c61=>?_)
      ·replace h:=gX c61 h
       exact goR h
      ·replace h:=gY c61 h
       refine goS ?_
       refine jI (jS y56 (by omega)) ?_
       exact⟨(y56+1),h,by omega,eJ⟩
     ·have hky562:=wF c58
      rw [jF hky562,gDa.eq_1] at h
      refine goX ?_
      refine noB ?_
      refine vN 0 8 (fun z63=>?_)
      refine pJ (fun(y62:Nat)=>⟨[(1,.ptr 0 0),(10,.N y62)],[.box [.I a0_0,.S a0_1,.S a0_2,.I a0_3,.I a0_4_0,.S a0_4_1,.L 3 (gJ a0_4_2),.L 9 (kP a0_5),.L 11 (qD a0_6)]],Tryz.f188.ntmps⟩) (fun y62=>gC9 rec_l11Form (a0_6.drop y62)  =some r) (fun y62=>a0_6.length - y62) 0 eJ h ?_
      rintro y62 h
      refine goL ?_
      refine mO (fun c64=>?_) (fun c64=>?_)
      ·have hky622:=wE c64
       obtain⟨x65,hx65,hdx65⟩:=drop_at hky622
       rw [hdx65,gC9.eq_2] at h
       obtain⟨x65_0,x65_1,⟨x65_2_0,x65_2_1,x65_2_2,x65_2_3,⟨x65_2_4_0,x65_2_4_1,x65_2_4_2⟩,x65_2_5,x65_2_6⟩⟩:=x65
       refine noS ?_
       refine kI (jE ?_)
       refine goL ?_
       refine jI (jJ y62 (gXg hx65)) ?_
       refine jI (gF (pK x65_0)) ?_
       obtain⟨b66,hb66,h⟩:=gK h
       refine jU ⟨[(1,.ptr 0 0),(10,.N y62),(195,.B b66)],[.box [.I a0_0,.S a0_1,.S a0_2,.I a0_3,.I a0_4_0,.S a0_4_1,.L 3 (gJ a0_4_2),.L 9 (kP a0_5),.L 11 (qD a0_6)],.box [.S x65_0,.L 1 (gZ x65_1),.I x65_2_0,.S x65_2_1,.S x65_2_2,.I x65_2_3,.I x65_2_4_0,.S x65_2_4_1,.L 3 (gJ x65_2_4_2),.L 9 (kP x65_2_5),.L 11 (qD x65_2_6)]],Tryz.f188.ntmps⟩ ?_ ?_
       ·refine gN 178 (fun c67=>?_) (fun c67=>?_)
        ·replace hb66:=gX c67 hb66
         refine goL ?_
         cases hb66
         exact eJ
        ·replace hb66:=gY c67 hb66
         refine goL ?_
         refine uD ?_
         refine jI (gF (gQm x65_1)) ?_
         refine gN 184 (fun c68=>?_) (fun c68=>?_)
         ·replace hb66:=gX c68 hb66
          refine goL ?_
          cases hb66
          exact eJ
         ·replace hb66:=gY c68 hb66
          refine goL ?_
          refine uD ?_
          obtain⟨x69,hx69,hb66⟩:=gK hb66
          refine jI (gF (zT x65_1 hx69)) ?_
          refine gN 190 (fun c70=>?_) (fun c70=>?_)
          ·replace hb66:=gX c70 hb66
           refine goL ?_
           cases hb66
           exact eJ
          ·replace hb66:=gY c70 hb66
           refine goL ?_
           refine uD ?_
           obtain⟨x71,hx71,hb66⟩:=gK hb66
           refine jI (gF (hrec_l11Form (jM.mk x65_2_0 x65_2_1 x65_2_2 x65_2_3 (gD.mk x65_2_4_0 x65_2_4_1 x65_2_4_2) x65_2_5 x65_2_6) hx71)) ?_
           cases hb66
           exact eJ
       refine goC h ?_ ?_<;>intro c72 h
       ·exact goR h
       ·refine goS ?_
        refine jI (jS y62 (by omega)) ?_
        exact⟨(y62+1),h,by omega,eJ⟩
      ·have hky622:=wF c64
       rw [jF hky622,gC9.eq_1] at h
       refine goX ?_
       refine jN ?_
       cases h
       exact qK
def gL2:Nat→jM→Option (Bool)
 | 0,_=>none
 | n+1,x0=>gL1 (gL2 n) x0
theorem gV8:∀(n:Nat) (x0:jM) {r:Bool},gL2 n x0=some r→jB Tryz.prog 188 [.d (yR x0)] [.b r]:=by
 intro n
 induction n with
 | zero=>intro x0 r h;cases h
 | succ n ih=>intro x0 r h;exact gV7 ih x0 h
def gKg(a0:Bool)(a1:gB):Option (gB):=
bnd ((cnd (!a0) ((some true)) (bnd (pW a1) fun x3=>
(some (!x3))))) fun b1=>
(cnd b1 (
(some (gB.mk [] []))) (
(some a1)))
theorem gOs(a0:Bool)(a1:gB){r:gB}(h:gKg a0 a1=some r):jB Tryz.prog 147 [.B a0,.d (mF a1)] [mF r]:=by
 obtain⟨a1_0,a1_1⟩:=a1
 unfold gKg at h
 refine SpI Tryz.func147 fun A _=>?_
 refine goL ?_
 obtain⟨b1,hb1,h⟩:=gK h
 refine jU ⟨[(3,.ptr 0 0),(4,.ptr 1 0),(11,.B b1)],[.box [.S a1_0,.L 2 (gM a1_1)],.box [.S [],.nilsl]],Tryz.f147.ntmps⟩ ?_ ?_
 ·refine gN 7 (fun c2=>?_) (fun c2=>?_)
  ·replace hb1:=gX c2 hb1
   refine goL ?_
   cases hb1
   exact eJ
  ·replace hb1:=gY c2 hb1
   refine goL ?_
   refine uD ?_
   obtain⟨x3,hx3,hb1⟩:=gK hb1
   refine jI (gF (wG (gB.mk a1_0 a1_1) hx3)) ?_
   cases hb1
   exact eJ
 refine goC h ?_ ?_<;>intro c4 h
 ·refine goL ?_
  refine gA6 (kD TBd.h TZ.h rfl (by repeat constructor)) ?_
  exact goR h
 ·refine goS ?_
  refine jN ?_
  cases h
  exact qK
def gEq(a0:jD):Option (Bool):=
bnd ((cnd (kW a0.trait) (bnd (vS a0.type_) fun x3=>
(some x3)) ((some false)))) fun b1=>
(some b1)
theorem gL3(a0:jD){r:Bool}(h:gEq a0=some r):jB Tryz.prog 170 [.d (gAh a0)] [.b r]:=by
 obtain⟨a0_0,⟨a0_1_0,a0_1_1,a0_1_2⟩⟩:=a0
 unfold gEq at h
 refine SpI Tryz.func170 fun A _=>?_
 refine goL ?_
 refine jI (gF (pK a0_0)) ?_
 obtain⟨b1,hb1,h⟩:=gK h
 refine jU ⟨[(2,.B b1)],[.box [.S a0_0,.I a0_1_0,.S a0_1_1,.L 3 (gJ a0_1_2)]],Tryz.f170.ntmps⟩ ?_ ?_
 ·refine gN 6 (fun c2=>?_) (fun c2=>?_)
  ·replace hb1:=gX c2 hb1
   refine goL ?_
   refine uD ?_
   obtain⟨x3,hx3,hb1⟩:=gK hb1
   refine jI (gF (zQ (gD.mk a0_1_0 a0_1_1 a0_1_2) hx3)) ?_
   cases hb1
   exact eJ
  ·replace hb1:=gY c2 hb1
   refine goL ?_
   cases hb1
   exact eJ
 exact goR h
end Go.Proofs.YtfaplndgbgoaaaaGreatDoor
