import Derived.Test.YtfaplndgbgoaaaaGreatDoorEng38
import Derived.Test.YtfaplndgbgoaaaaGreatDoorEng67
import Derived.Test.YtfaplndgbgoaaaaGreatDoorVr
import Derived.Test.YtfaplndgbgoaaaaGreatDoorSfi0
import Derived.Test.YtfaplndgbgoaaaaGreatDoorB3
import Derived.Test.YtfaplndgbgoaaaaGreatDoorUn1
set_option maxHeartbeats 4000000
set_option linter.unusedVariables false
set_option linter.unusedSimpArgs false
set_option linter.unusedSectionVars false
namespace Go.Proofs.YtfaplndgbgoaaaaGreatDoor
open Go Go.Eng
attribute [local irreducible] V VO VQ VY Quiet QR jB kX Rng uJ uY qW
def gAe(rec_sEqualExpr:jM→jM→Option (Bool))(a1:jM):List gJa→Nat→Option (Bool)
 | [],y16=>(some true)
 | x19::xs,y16=>bnd (bnd (at? a1.arms (y16:Int)) fun x21=>
(cnd (!(x19.constructor==x21.constructor)) ((some true)) (bnd (gKi x19.vars x21.vars) fun x23=>
(cnd (!x23) ((some true)) (bnd (rec_sEqualExpr x19.body x21.body) fun x25=>
(some (!x25))))))) fun b20=>
(cnd b20 (
(some false)) (
gAe rec_sEqualExpr a1 xs (y16+1)))
def gAf(rec_sEqualExpr:jM→jM→Option (Bool))(a0:jM)(a1:jM):List jM→Nat→Option (Bool)
 | [],y9=>gAe rec_sEqualExpr a1 a0.arms 0
 | x12::xs,y9=>bnd (at? a1.args (y9:Int)) fun x13=>
bnd (rec_sEqualExpr x12 x13) fun x14=>
(cnd (!x14) (
(some false)) (
gAf rec_sEqualExpr a0 a1 xs (y9+1)))
def gHu(rec_sEqualExpr:jM→jM→Option (Bool))(a0:jM)(a1:jM):Option (Bool):=
lt_ ((cnd (a0.kind != a1.kind) (true) ((cnd (!(a0.trait==a1.trait)) (true) ((cnd (!(a0.name==a1.name)) (true) ((cnd (a0.n != a1.n) (true) ((cnd (!(teq a0.type_ a1.type_)) (true) ((cnd ((a0.args.length:Int) !=(a1.args.length:Int)) (true) (((a0.arms.length:Int) !=(a1.arms.length:Int))))))))))))))) fun b1=>
(cnd b1 (
(some false)) (
gAf rec_sEqualExpr a0 a1 a0.args 0))
theorem gQj{rec_sEqualExpr:jM→jM→Option (Bool)}(hrec_sEqualExpr:∀(x0:jM) (x1:jM) {r:Bool},rec_sEqualExpr x0 x1=some r→jB Tryz.prog 181 [.d (yR x0),.d (yR x1)] [.b r])(a0:jM)(a1:jM){r:Bool}(h:gHu rec_sEqualExpr a0 a1=some r):jB Tryz.prog 181 [.d (yR a0),.d (yR a1)] [.b r]:=by
 obtain⟨a0_0,a0_1,a0_2,a0_3,⟨a0_4_0,a0_4_1,a0_4_2⟩,a0_5,a0_6⟩:=a0
 obtain⟨a1_0,a1_1,a1_2,a1_3,⟨a1_4_0,a1_4_1,a1_4_2⟩,a1_5,a1_6⟩:=a1
 unfold gHu at h
 refine SpI Tryz.func181 fun A _=>?_
 refine goL ?_
 obtain⟨b1,hb1,h⟩:=qR h
 refine jU ⟨[(2,.ptr 0 0),(3,.ptr 1 0),(58,.B b1)],[.box [.I a0_0,.S a0_1,.S a0_2,.I a0_3,.I a0_4_0,.S a0_4_1,.L 3 (gJ a0_4_2),.L 9 (kP a0_5),.L 11 (qD a0_6)],.box [.I a1_0,.S a1_1,.S a1_2,.I a1_3,.I a1_4_0,.S a1_4_1,.L 3 (gJ a1_4_2),.L 9 (kP a1_5),.L 11 (qD a1_6)]],Tryz.f181.ntmps⟩ ?_ ?_
 ·refine gN 12 (fun c2=>?_) (fun c2=>?_)
  ·replace hb1:=gX c2 hb1
   refine goL ?_
   cases hb1
   exact eJ
  ·replace hb1:=gY c2 hb1
   refine goL ?_
   refine gN 19 (fun c3=>?_) (fun c3=>?_)
   ·replace hb1:=gX c3 hb1
    refine goL ?_
    cases hb1
    exact eJ
   ·replace hb1:=gY c3 hb1
    refine goL ?_
    refine gN 26 (fun c4=>?_) (fun c4=>?_)
    ·replace hb1:=gX c4 hb1
     refine goL ?_
     cases hb1
     exact eJ
    ·replace hb1:=gY c4 hb1
     refine goL ?_
     refine gN 33 (fun c5=>?_) (fun c5=>?_)
     ·replace hb1:=gX c5 hb1
      refine goL ?_
      cases hb1
      exact eJ
     ·replace hb1:=gY c5 hb1
      refine goL ?_
      refine uD ?_
      refine jI (gF (gBw (gD.mk a0_4_0 a0_4_1 a0_4_2) (gD.mk a1_4_0 a1_4_1 a1_4_2))) ?_
      refine gN 41 (fun c6=>?_) (fun c6=>?_)
      ·replace hb1:=gX c6 hb1
       refine goL ?_
       cases hb1
       exact eJ
      ·replace hb1:=gY c6 hb1
       refine goL ?_
       refine gN 50 (fun c7=>?_) (fun c7=>?_)
       ·replace hb1:=gX c7 hb1
        refine goL ?_
        cases hb1
        exact eJ
       ·replace hb1:=gY c7 hb1
        refine goL ?_
        cases hb1
        exact eJ
 refine goC h ?_ ?_<;>intro c8 h
 ·exact goR h
 ·refine goS ?_
  refine noB ?_
  refine vN 0 7 (fun z10=>?_)
  refine pJ (fun(y9:Nat)=>⟨[(2,.ptr 0 0),(3,.ptr 1 0),(5,.N y9)],[.box [.I a0_0,.S a0_1,.S a0_2,.I a0_3,.I a0_4_0,.S a0_4_1,.L 3 (gJ a0_4_2),.L 9 (kP a0_5),.L 11 (qD a0_6)],.box [.I a1_0,.S a1_1,.S a1_2,.I a1_3,.I a1_4_0,.S a1_4_1,.L 3 (gJ a1_4_2),.L 9 (kP a1_5),.L 11 (qD a1_6)]],Tryz.f181.ntmps⟩) (fun y9=>gAf rec_sEqualExpr (jM.mk a0_0 a0_1 a0_2 a0_3 (gD.mk a0_4_0 a0_4_1 a0_4_2) a0_5 a0_6) (jM.mk a1_0 a1_1 a1_2 a1_3 (gD.mk a1_4_0 a1_4_1 a1_4_2) a1_5 a1_6) (a0_5.drop y9) y9=some r) (fun y9=>a0_5.length - y9) 0 eJ h ?_
  rintro y9 h
  refine goL ?_
  refine mO (fun c11=>?_) (fun c11=>?_)
  ·have hky92:=wE c11
   obtain⟨x12,hx12,hdx12⟩:=drop_at hky92
   rw [hdx12,gAf.eq_2] at h
   obtain⟨x12_0,x12_1,x12_2,x12_3,⟨x12_4_0,x12_4_1,x12_4_2⟩,x12_5,x12_6⟩:=x12
   refine noS ?_
   refine kI (jE ?_)
   refine goL ?_
   refine gDm (jJ y9 (gSl hx12)) ?_
   refine goL ?_
   obtain⟨x13,hx13,h⟩:=gK h
   rw [gD7] at hx13
   obtain⟨x13_0,x13_1,x13_2,x13_3,⟨x13_4_0,x13_4_1,x13_4_2⟩,x13_5,x13_6⟩:=x13
   refine gDm (jJ y9 (gSl hx13)) ?_
   refine goL ?_
   obtain⟨x14,hx14,h⟩:=gK h
   refine gDm (gF (hrec_sEqualExpr (jM.mk x12_0 x12_1 x12_2 x12_3 (gD.mk x12_4_0 x12_4_1 x12_4_2) x12_5 x12_6) (jM.mk x13_0 x13_1 x13_2 x13_3 (gD.mk x13_4_0 x13_4_1 x13_4_2) x13_5 x13_6) hx14)) ?_
   refine goC h ?_ ?_<;>intro c15 h
   ·exact goR h
   ·refine goS ?_
    refine jI (jS y9 (by omega)) ?_
    exact⟨(y9+1),h,by omega,eJ⟩
  ·have hky92:=wF c11
   rw [jF hky92,gAf.eq_1] at h
   refine goX ?_
   refine noB ?_
   refine vN 0 8 (fun z17=>?_)
   refine pJ (fun(y16:Nat)=>⟨[(2,.ptr 0 0),(3,.ptr 1 0),(6,.N y16)],[.box [.I a0_0,.S a0_1,.S a0_2,.I a0_3,.I a0_4_0,.S a0_4_1,.L 3 (gJ a0_4_2),.L 9 (kP a0_5),.L 11 (qD a0_6)],.box [.I a1_0,.S a1_1,.S a1_2,.I a1_3,.I a1_4_0,.S a1_4_1,.L 3 (gJ a1_4_2),.L 9 (kP a1_5),.L 11 (qD a1_6)]],Tryz.f181.ntmps⟩) (fun y16=>gAe rec_sEqualExpr (jM.mk a1_0 a1_1 a1_2 a1_3 (gD.mk a1_4_0 a1_4_1 a1_4_2) a1_5 a1_6) (a0_6.drop y16) y16=some r) (fun y16=>a0_6.length - y16) 0 eJ h ?_
   rintro y16 h
   refine goL ?_
   refine mO (fun c18=>?_) (fun c18=>?_)
   ·have hky162:=wE c18
    obtain⟨x19,hx19,hdx19⟩:=drop_at hky162
    rw [hdx19,gAe.eq_2] at h
    obtain⟨x19_0,x19_1,⟨x19_2_0,x19_2_1,x19_2_2,x19_2_3,⟨x19_2_4_0,x19_2_4_1,x19_2_4_2⟩,x19_2_5,x19_2_6⟩⟩:=x19
    refine noS ?_
    refine kI (jE ?_)
    obtain⟨b20,hb20,h⟩:=gK h
    refine qZ (P:=Tryz.prog) Mix.h ⟨[(2,.ptr 0 0),(3,.ptr 1 0),(6,.N y16),(129,.B b20)],[.box [.I a0_0,.S a0_1,.S a0_2,.I a0_3,.I a0_4_0,.S a0_4_1,.L 3 (gJ a0_4_2),.L 9 (kP a0_5),.L 11 (qD a0_6)],.box [.I a1_0,.S a1_1,.S a1_2,.I a1_3,.I a1_4_0,.S a1_4_1,.L 3 (gJ a1_4_2),.L 9 (kP a1_5),.L 11 (qD a1_6)]],Tryz.f181.ntmps⟩ (by kernel_rfl) ?_ ?_
    ·refine goL ?_
     refine gDm (jJ y16 (gXg hx19)) ?_
     refine goL ?_
     obtain⟨x21,hx21,hb20⟩:=gK hb20
     rw [gD7] at hx21
     obtain⟨x21_0,x21_1,⟨x21_2_0,x21_2_1,x21_2_2,x21_2_3,⟨x21_2_4_0,x21_2_4_1,x21_2_4_2⟩,x21_2_5,x21_2_6⟩⟩:=x21
     refine gDm (jJ y16 (gXg hx21)) ?_
     refine goL ?_
     refine vR 98 (fun c22=>?_) (fun c22=>?_)
     ·replace hb20:=gX c22 hb20
      refine goL ?_
      cases hb20
      exact eJ
     ·replace hb20:=gY c22 hb20
      refine goL ?_
      refine gBe (jJ y16 (gXg hx19)) ?_
      refine goL ?_
      refine gBe (jJ y16 (gXg hx21)) ?_
      refine goL ?_
      obtain⟨x23,hx23,hb20⟩:=gK hb20
      refine gBe (gF (gU5 x19_1 x21_1 hx23)) ?_
      refine goL ?_
      refine vR 114 (fun c24=>?_) (fun c24=>?_)
      ·replace hb20:=gX c24 hb20
       refine goL ?_
       cases hb20
       exact eJ
      ·replace hb20:=gY c24 hb20
       refine goL ?_
       refine gBe (jJ y16 (gXg hx19)) ?_
       refine goL ?_
       refine gBe (jJ y16 (gXg hx21)) ?_
       refine goL ?_
       obtain⟨x25,hx25,hb20⟩:=gK hb20
       refine gBe (gF (hrec_sEqualExpr (jM.mk x19_2_0 x19_2_1 x19_2_2 x19_2_3 (gD.mk x19_2_4_0 x19_2_4_1 x19_2_4_2) x19_2_5 x19_2_6) (jM.mk x21_2_0 x21_2_1 x21_2_2 x21_2_3 (gD.mk x21_2_4_0 x21_2_4_1 x21_2_4_2) x21_2_5 x21_2_6) hx25)) ?_
       refine goL ?_
       cases hb20
       exact eJ
    refine goC h ?_ ?_<;>intro c26 h
    ·exact goR h
    ·refine goS ?_
     refine jI (jS y16 (by omega)) ?_
     exact⟨(y16+1),h,by omega,eJ⟩
   ·have hky162:=wF c18
    rw [jF hky162,gAe.eq_1] at h
    refine goX ?_
    refine jN ?_
    cases h
    exact qK
def gHv:Nat→jM→jM→Option (Bool)
 | 0,_,_=>none
 | n+1,x0,x1=>gHu (gHv n) x0 x1
theorem gQk:∀(n:Nat) (x0:jM) (x1:jM) {r:Bool},gHv n x0 x1=some r→jB Tryz.prog 181 [.d (yR x0),.d (yR x1)] [.b r]:=by
 intro n
 induction n with
 | zero=>intro x0 x1 r h;cases h
 | succ n ih=>intro x0 x1 r h;exact gQj ih x0 x1 h
def gDh:List (List UInt8)→(List gB)→Option (List gB)
 | [],y1=>(some y1)
 | x6::xs,y1=>lt_ (kV x6) fun x7=>
gd (y1.length+[x7].length≤4294967296) (
gDh xs (y1++[x7]))
def gJx(a0:List (List UInt8)):Option (List gB):=
gDh a0 []
theorem gQl(a0:List (List UInt8)){r:List gB}(h:gJx a0=some r):jB Tryz.prog 165 [.L 1 (gZ a0)] [.sl 2 (gM r)]:=by
 unfold gJx at h
 refine SpI Tryz.func165 fun A _=>?_
 refine goL ?_
 refine zN ?_
 refine goL ?_
 refine noB ?_
 refine gFj 0 (fun z4=>?_)
 refine kR (fun(y3:Nat) (y1:List gB) (v2:Nat)=>⟨[(0,.L 1 (gZ a0)),(3,.sl 0 v2),(4,.N y3)],[.arr 107 2 v2 (gM y1)],Tryz.f165.ntmps⟩) (fun y3 y1 v2=>gDh (a0.drop y3) y1=some r) (fun y3 y1 v2=>a0.length - y3) 0 [] 0 eJ h ?_
 rintro y3 y1 v2 h
 refine goL ?_
 refine mO (fun c5=>?_) (fun c5=>?_)
 ·have hky32:=wE c5
  obtain⟨x6,hx6,hdx6⟩:=drop_at hky32
  rw [hdx6,gDh.eq_2] at h
  refine noS ?_
  refine kI (jE ?_)
  refine goL ?_
  refine jI (jJ y3 (gOe hx6)) ?_
  obtain⟨⟨x7_0,x7_1⟩,hx7,h⟩:=qR h
  have sx7:=mG x6
  rw [hx7] at sx7
  refine qP (gF (sx7)) ?_
  refine gBc (u:=(.st [.s x7_0,.sl 2 (gM x7_1)])) ?_
  obtain⟨g8,h⟩:=mZ h
  refine gBf g8 ?_
  refine goL ?_
  refine jI (jS y3 (by omega)) ?_
  exact⟨(y3+1),(y1++[(gB.mk x7_0 x7_1)]),(v2+1),h,by omega,eJ⟩
 ·have hky32:=wF c5
  rw [jF hky32,gDh.eq_1] at h
  refine goX ?_
  refine kK 0 rfl rfl ?_
  refine jN ?_
  cases h
  exact qK
def gHw(rec_l5Sx:gD→Option (gB)):List gD→(List gB)→Option (gB)
 | [],y17=>(some (gB.mk [] y17))
 | x22::xs,y17=>bnd (rec_l5Sx x22) fun x23=>
gd (y17.length+[x23].length≤4294967296) (
gHw rec_l5Sx xs (y17++[x23]))
def gHx(rec_l5Sx:gD→Option (gB)):List gD→(List gB)→Option (gB)
 | [],y27=>(some (gB.mk [] y27))
 | x32::xs,y27=>bnd (rec_l5Sx x32) fun x33=>
gd (y27.length+[x33].length≤4294967296) (
gHx rec_l5Sx xs (y27++[x33]))
def gWn(rec_l5Sx:gD→Option (gB))(a0:gD):Option (gB):=
(cnd (a0.kind==1) (
gd (([39]:List UInt8).length+a0.name.length≤4294967296) (
lt_ (kV (([39]:List UInt8)++a0.name)) fun x3=>
(some x3))) (
(cnd (a0.kind==4) (
lt_ (kV [100,121,110]) fun x5=>
lt_ (kV a0.name) fun x6=>
bnd (gF1 [x5,x6]) fun x7=>
(some x7)) (
lt_ ((cnd (a0.kind==2) (((a0.args.length:Int)==0)) (false))) fun b8=>
(cnd b8 (
lt_ (kV a0.name) fun x11=>
(some x11)) (
(cnd (a0.kind==3) (
lt_ (kV [97,115,115,111,99]) fun x13=>
gd (([]:List gB).length+[x13].length≤4294967296) (
lt_ (kV a0.name) fun x15=>
gd (([]++[x13]).length+[x15].length≤4294967296) (
gHw rec_l5Sx a0.args (([]++[x13])++[x15])))) (
lt_ (kV a0.name) fun x25=>
gd (([]:List gB).length+[x25].length≤4294967296) (
gHx rec_l5Sx a0.args ([]++[x25]))))))))))
theorem hF7{rec_l5Sx:gD→Option (gB)}(hrec_l5Sx:∀(x0:gD) {r:gB},rec_l5Sx x0=some r→jB Tryz.prog 145 [.d (jP x0)] [mF r])(a0:gD){r:gB}(h:gWn rec_l5Sx a0=some r):jB Tryz.prog 145 [.d (jP a0)] [mF r]:=by
 obtain⟨a0_0,a0_1,a0_2⟩:=a0
 unfold gWn at h
 refine SpI Tryz.func145 fun A _=>?_
 refine goL ?_
 refine kI (jE ?_)
 refine goC h ?_ ?_<;>intro c1 h
 ·refine goL ?_
  obtain⟨g2,h⟩:=mZ h
  refine qP (vB g2) ?_
  obtain⟨⟨x3_0,x3_1⟩,hx3,h⟩:=qR h
  have sx3:=mG (([39]:List UInt8)++a0_1)
  rw [hx3] at sx3
  refine qP (gF (sx3)) ?_
  exact goR h
 ·refine goC h ?_ ?_<;>intro c4 h
  ·refine jL (P:=Tryz.prog) Mix.h [(1,true),(2,true),(0,false),(3,false),(4,false),(5,false),(6,false)] (by kernel_rfl) ?_
   refine goY ?_
   obtain⟨⟨x5_0,x5_1⟩,hx5,h⟩:=qR h
   have sx5:=mG [100,121,110]
   rw [hx5] at sx5
   refine pG (sx5) ?_
   obtain⟨⟨x6_0,x6_1⟩,hx6,h⟩:=qR h
   have sx6:=mG a0_1
   rw [hx6] at sx6
   refine pG (sx6) ?_
   refine pY (T:=105) (us:=gM [(gB.mk x5_0 x5_1),(gB.mk x6_0 x6_1)]) ?_
   refine zO 2 rfl rfl ?_
   obtain⟨⟨x7_0,x7_1⟩,hx7,h⟩:=gK h
   refine pG (gIn [(gB.mk x5_0 x5_1),(gB.mk x6_0 x6_1)] hx7) ?_
   refine goY ?_
   refine kS ?_
   exact goR h
  ·refine goL ?_
   obtain⟨b8,hb8,h⟩:=qR h
   refine jU ⟨[(1,.ptr 0 0),(2,.ptr 1 0),(23,.B b8)],[.box [.I a0_0,.S a0_1,.L 3 (gJ a0_2)],.box [.S [],.nilsl]],Tryz.f145.ntmps⟩ ?_ ?_
   ·refine gN 27 (fun c9=>?_) (fun c9=>?_) (by first | rfl | (simp only [jG,gU];rfl))
    ·replace hb8:=gX c9 hb8
     refine goL ?_
     cases hb8
     exact⟨rfl,⟨⟨rfl,rfl⟩,⟨rfl,rfl⟩,⟨by first | rfl | (simp only [jG,gU];rfl),rfl⟩,trivial⟩,⟨_,rfl⟩,rfl⟩
    ·replace hb8:=gY c9 hb8
     refine goL ?_
     cases hb8
     exact⟨rfl,⟨⟨rfl,rfl⟩,⟨rfl,rfl⟩,⟨by first | rfl | (simp only [jG,gU];rfl),rfl⟩,trivial⟩,⟨_,rfl⟩,rfl⟩
   refine goC h ?_ ?_<;>intro c10 h
   ·refine goL ?_
    obtain⟨⟨x11_0,x11_1⟩,hx11,h⟩:=qR h
    have sx11:=mG a0_1
    rw [hx11] at sx11
    refine qP (gF (sx11)) ?_
    exact goR h
   ·refine goS ?_
    refine gFl (kD TBd.h TZ.h rfl (by repeat constructor)) ?_
    refine mO (fun c12=>?_) (fun c12=>?_)
    ·replace h:=gX c12 h
     refine yJ 107 2 2 1 rfl rfl (by repeat constructor) (by repeat constructor) (by repeat constructor) (by repeat constructor) ?_
     refine uX (P:=Tryz.prog) Mix.h [(0,true),(1,true),(2,false),(3,false),(4,false),(5,true),(6,false)] (by kernel_rfl) ?_
     refine goY ?_
     obtain⟨⟨x13_0,x13_1⟩,hx13,h⟩:=qR h
     have sx13:=mG [97,115,115,111,99]
     rw [hx13] at sx13
     refine pG (sx13) ?_
     refine pY (T:=105) (us:=gM [(gB.mk x13_0 x13_1)]) ?_
     obtain⟨g14,h⟩:=mZ h
     refine pV (T:=105) g14 ?_
     refine goY ?_
     refine kS ?_
     refine gHk ?_
     refine jL (P:=Tryz.prog) Mix.h [(0,true),(1,true),(2,true),(3,true),(4,false),(5,false),(6,false),(7,true),(8,false)] (by kernel_rfl) ?_
     refine goY ?_
     obtain⟨⟨x15_0,x15_1⟩,hx15,h⟩:=qR h
     have sx15:=mG a0_1
     rw [hx15] at sx15
     refine pG (sx15) ?_
     refine pY (T:=105) (us:=gM [(gB.mk x15_0 x15_1)]) ?_
     obtain⟨g16,h⟩:=mZ h
     refine pV (T:=105) g16 ?_
     refine goY ?_
     refine kS ?_
     refine goL ?_
     refine noB ?_
     refine vN 0 2 (fun z20=>?_)
     refine kR (fun(y19:Nat) (y17:List gB) (v18:Nat)=>⟨[(1,.ptr 0 0),(2,.ptr 1 0),(3,.ptr 2 0),(4,.N y19)],[.box [.I a0_0,.S a0_1,.L 3 (gJ a0_2)],.box [.S [],.nilsl],.box [.S [],.sl 3 v18],.arr 107 2 v18 (gM y17),.arr 107 2 0 (gM [(gB.mk x13_0 x13_1)]),.arr 107 2 0 (gM [(gB.mk x15_0 x15_1)])],Tryz.f145.ntmps⟩) (fun y19 y17 v18=>gHw rec_l5Sx (a0_2.drop y19) y17=some r) (fun y19 y17 v18=>a0_2.length - y19) 0 (([]++[(gB.mk x13_0 x13_1)])++[(gB.mk x15_0 x15_1)]) ((0+1)+1) eJ h ?_
     rintro y19 y17 v18 h
     refine goL ?_
     refine mO (fun c21=>?_) (fun c21=>?_)
     ·have hky192:=wE c21
      obtain⟨x22,hx22,hdx22⟩:=drop_at hky192
      rw [hdx22,gHw.eq_2] at h
      obtain⟨x22_0,x22_1,x22_2⟩:=x22
      refine noS ?_
      refine kI (jE ?_)
      refine uX (P:=Tryz.prog) Mix.h [(0,true),(1,true),(2,true),(3,true),(4,true),(5,true),(6,true),(7,false),(8,false),(9,false),(10,true),(11,false)] (by kernel_rfl) ?_
      refine goY ?_
      refine jC rfl (jJ y19 (gBb hx22)) ?_
      refine goY ?_
      obtain⟨⟨x23_0,x23_1⟩,hx23,h⟩:=gK h
      refine pG (hrec_l5Sx (gD.mk x22_0 x22_1 x22_2) hx23) ?_
      refine pY (T:=105) (us:=gM [(gB.mk x23_0 x23_1)]) ?_
      obtain⟨g24,h⟩:=mZ h
      refine pV (T:=105) g24 ?_
      refine goY ?_
      refine kS ?_
      refine goL ?_
      refine jI (jS y19 (by omega)) ?_
      exact⟨(y19+1),(y17++[(gB.mk x23_0 x23_1)]),(v18+1),h,by omega,eJ⟩
     ·have hky192:=wF c21
      rw [jF hky192,gHw.eq_1] at h
      refine goX ?_
      refine kK 3 rfl rfl ?_
      refine jN ?_
      cases h
      exact qK
    ·replace h:=gY c12 h
     refine noS ?_
     refine yJ 107 2 2 1 rfl rfl (by repeat constructor) (by repeat constructor) (by repeat constructor) (by repeat constructor) ?_
     refine jL (P:=Tryz.prog) Mix.h [(0,true),(1,true),(2,true),(3,true),(4,false),(5,false),(6,false),(7,true),(8,false)] (by kernel_rfl) ?_
     refine goY ?_
     obtain⟨⟨x25_0,x25_1⟩,hx25,h⟩:=qR h
     have sx25:=mG a0_1
     rw [hx25] at sx25
     refine pG (sx25) ?_
     refine pY (T:=105) (us:=gM [(gB.mk x25_0 x25_1)]) ?_
     obtain⟨g26,h⟩:=mZ h
     refine pV (T:=105) g26 ?_
     refine goY ?_
     refine kS ?_
     refine goL ?_
     refine noB ?_
     refine vN 0 2 (fun z30=>?_)
     refine kR (fun(y29:Nat) (y27:List gB) (v28:Nat)=>⟨[(1,.ptr 0 0),(2,.ptr 1 0),(3,.ptr 2 0),(4,.N y29)],[.box [.I a0_0,.S a0_1,.L 3 (gJ a0_2)],.box [.S [],.nilsl],.box [.S [],.sl 3 v28],.arr 107 2 v28 (gM y27),.arr 107 2 0 (gM [(gB.mk x25_0 x25_1)])],Tryz.f145.ntmps⟩) (fun y29 y27 v28=>gHx rec_l5Sx (a0_2.drop y29) y27=some r) (fun y29 y27 v28=>a0_2.length - y29) 0 ([]++[(gB.mk x25_0 x25_1)]) (0+1) eJ h ?_
     rintro y29 y27 v28 h
     refine goL ?_
     refine mO (fun c31=>?_) (fun c31=>?_)
     ·have hky292:=wE c31
      obtain⟨x32,hx32,hdx32⟩:=drop_at hky292
      rw [hdx32,gHx.eq_2] at h
      obtain⟨x32_0,x32_1,x32_2⟩:=x32
      refine noS ?_
      refine kI (jE ?_)
      refine uX (P:=Tryz.prog) Mix.h [(0,true),(1,true),(2,true),(3,true),(4,true),(5,true),(6,true),(7,false),(8,false),(9,false),(10,true),(11,false)] (by kernel_rfl) ?_
      refine goY ?_
      refine jC rfl (jJ y29 (gBb hx32)) ?_
      refine goY ?_
      obtain⟨⟨x33_0,x33_1⟩,hx33,h⟩:=gK h
      refine pG (hrec_l5Sx (gD.mk x32_0 x32_1 x32_2) hx33) ?_
      refine pY (T:=105) (us:=gM [(gB.mk x33_0 x33_1)]) ?_
      obtain⟨g34,h⟩:=mZ h
      refine pV (T:=105) g34 ?_
      refine goY ?_
      refine kS ?_
      refine goL ?_
      refine jI (jS y29 (by omega)) ?_
      exact⟨(y29+1),(y27++[(gB.mk x33_0 x33_1)]),(v28+1),h,by omega,eJ⟩
     ·have hky292:=wF c31
      rw [jF hky292,gHx.eq_1] at h
      refine goX ?_
      refine kK 3 rfl rfl ?_
      refine jN ?_
      cases h
      exact qK
def gIw:Nat→gD→Option (gB)
 | 0,_=>none
 | n+1,x0=>gWn (gIw n) x0
theorem gHd:∀(n:Nat) (x0:gD) {r:gB},gIw n x0=some r→jB Tryz.prog 145 [.d (jP x0)] [mF r]:=by
 intro n
 induction n with
 | zero=>intro x0 r h;cases h
 | succ n ih=>intro x0 r h;exact hF7 ih x0 h
@[reducible] def vI:List UInt8:=List.append [40,112,97,99,107,97,103,101,32,99,111,114,101,32,40,41,32,40,116,114,97,105,116,32,115,104,111,119,32,40,41,32,40,41,32,40,109,32,40,41,32,105,110,116,41,32,40,116,119,111,32,40,39,115,101] [108,102,41,32,105,110,116,32,40,120,32,121,41,32,40,43,32,40,109,101,116,104,111,100,32,115,104,111,119,32,109,32,120,41,32,40,109,101,116,104,111,100,32,115,104,111,119,32,109,32,121,41,41,41,41]
@[reducible] def vJ:List UInt8:=List.append (List.append [32,40,116,114,97,105,116,32,101,113,32,40,41,32,40,41,32,40,115,97,109,101,32,40,39,115,101,108,102,41,32,98,111,111,108,41,41,32,40] [116,114,97,105,116,32,111,114,100,32,40,101,113,41,32,40,41,32,40,108,101,115,115,32,40,39,115,101,108,102,41,32,98,111,111,108,41,41,32]) (List.append [40,116,114,97,105,116,32,97,100,100,32,40,41,32,40,97,115,115,111,99,41,32,40,112,108,117,115,32,40,39,115,101,108,102,41,32,40,97,115] [115,111,99,32,97,100,100,32,39,115,101,108,102,41,41,41,32,40,116,114,97,105,116,32,115,101,110,100,32,40,41,32,40,97,117,116,111,41,41])
@[reducible] def wK:List UInt8:=List.append [32,40,100,97,116,97,32,108,105,115,116,32,40,97,41,32,40,110,105,108,41,32,40,99,111,110,115,32,39,97,32,40,108,105,115,116,32,39,97,41,41,41,32,40,100,97,116,97,32,112,97,105,114,32,40,97,32,98,41] [32,40,112,97,105,114,32,39,97,32,39,98,41,41,32,40,100,97,116,97,32,98,111,120,32,40,97,41,32,40,98,111,120,32,39,97,41,41,32,40,100,97,116,97,32,117,110,105,116,32,40,41,32,40,117,110,105,116,41,41]
@[reducible] def yB:List UInt8:=List.append [32,40,105,110,115,116,32,115,104,111,119,32,40,41,32,105,110,116,32,40,41,32,40,41,32,40,41,32,40,109,32,40,120,41,32,120,41,41,32,40,105,110,115] [116,32,115,104,111,119,32,40,41,32,98,111,111,108,32,40,41,32,40,41,32,40,41,32,40,109,32,40,120,41,32,40,105,102,32,120,32,49,32,48,41,41,41]
@[reducible] def gBm:List UInt8:=List.append [32,40,105,110,115,116,32,115,104,111,119,32,40,97,41,32,40,108,105,115,116,32,39,97,41,32,40,40,115,104,111,119,32,39,97,41,41,32,40,41,32,40,41,32,40,109,32,40,120,41,32,40,99,97,115,101,32,120,32,40] [110,105,108,32,48,41,32,40,99,111,110,115,32,104,32,116,32,40,43,32,40,109,101,116,104,111,100,32,115,104,111,119,32,109,32,104,41,32,40,109,101,116,104,111,100,32,115,104,111,119,32,109,32,116,41,41,41,41,41,41]
@[reducible] def gBn:List UInt8:=List.append (List.append [32,40,105,110,115,116,32,115,104,111,119,32,40,97,41,32,40,108,105,115,116,32,39,97,41,32,40,41,32,40,100,101,102,97,117,108] [116,41,32,40,41,32,40,109,32,40,120,41,32,55,41,41,32,40,105,110,115,116,32,115,104,111,119,32,40,41,32,40,108,105,115,116,32]) (List.append [105,110,116,41,32,40,41,32,40,41,32,40,41,32,40,109,32,40,120,41,32,40,99,97,115,101,32,120,32,40,110,105,108,32,48,41,32] [40,99,111,110,115,32,104,32,116,32,40,43,32,104,32,40,109,101,116,104,111,100,32,115,104,111,119,32,109,32,116,41,41,41,41,41,41])
@[reducible] def qX:List UInt8:=List.append [32,40,105,110,115,116,32,115,104,111,119,32,40,97,32,98,41,32,40,112,97,105,114,32,39,97,32,39,98,41,32,40,40,115,104,111,119,32,39,97,41,32,40,115,104,111,119,32,39,98,41,41,32,40,41,32,40,41,32,40,109,32,40] [120,41,32,40,99,97,115,101,32,120,32,40,112,97,105,114,32,121,32,122,32,40,45,32,40,109,101,116,104,111,100,32,115,104,111,119,32,109,32,121,41,32,40,109,101,116,104,111,100,32,115,104,111,119,32,109,32,122,41,41,41,41,41,41]
@[reducible] def uI:List UInt8:=List.append [32,40,105,110,115,116,32,101,113,32,40,41,32,105,110,116,32,40,41,32,40,41,32,40,41,32,40,115,97,109,101,32,40,120,32,121,41,32,40,61,32,120,32,121,41,41,41] [32,40,105,110,115,116,32,111,114,100,32,40,41,32,105,110,116,32,40,41,32,40,41,32,40,41,32,40,108,101,115,115,32,40,120,32,121,41,32,40,60,32,120,32,121,41,41,41]
@[reducible] def vK:List UInt8:=List.append [32,40,105,110,115,116,32,101,113,32,40,97,41,32,40,98,111,120,32,39,97,41,32,40,40,101,113,32,39,97,41,41,32,40,41,32,40,41,32,40,115,97,109,101,32,40,120,32,121,41,32,40,99] [97,115,101,32,120,32,40,98,111,120,32,112,32,40,99,97,115,101,32,121,32,40,98,111,120,32,113,32,40,109,101,116,104,111,100,32,101,113,32,115,97,109,101,32,112,32,113,41,41,41,41,41,41,41]
@[reducible] def uW:List UInt8:=[32,40,105,110,115,116,32,97,100,100,32,40,41,32,105,110,116,32,40,41,32,40,41,32,40,105,110,116,41,32,40,112,108,117,115,32,40,120,32,121,41,32,40,43,32,120,32,121,41,41,41]
@[reducible] def vU:List UInt8:=List.append (List.append [32,40,105,110,115,116,32,97,100,100,32,40,97,41,32,40,98,111,120,32,39,97,41,32,40,40,97,100,100,32,39,97,41,41,32] [40,41,32,40,40,98,111,120,32,40,97,115,115,111,99,32,97,100,100,32,39,97,41,41,41,32,40,112,108,117,115,32,40,120,32]) (List.append [121,41,32,40,99,97,115,101,32,120,32,40,98,111,120,32,112,32,40,99,97,115,101,32,121,32,40,98,111,120,32,113,32,40,110] [101,119,32,98,111,120,32,40,109,101,116,104,111,100,32,97,100,100,32,112,108,117,115,32,112,32,113,41,41,41,41,41,41,41,41])
@[reducible] def wV:List UInt8:=List.append [32,40,102,110,32,105,100,32,40,97,41,32,40,41,32,40,40,120,32,39,97,41,41,32,39,97,32,120,41,32,40,102,110,32,98,111,116,104,32,40,97,41,32,40,40] [115,104,111,119,32,39,97,41,41,32,40,40,120,32,39,97,41,41,32,105,110,116,32,40,109,101,116,104,111,100,32,115,104,111,119,32,116,119,111,32,120,32,120,41,41]
def gHy(c:jA):Option (List UInt8 × jA):=
gd (vI.length+vJ.length≤4294967296) (
gd ((vI++vJ).length+wK.length≤4294967296) (
gd (((vI++vJ)++wK).length+yB.length≤4294967296) (
bnd (gCm c 2) fun x4=>
bnd ((cnd x4.1 (
gd ((((vI++vJ)++wK)++yB).length+gBm.length≤4294967296) (
(some ((((vI++vJ)++wK)++yB)++gBm)))) (
gd ((((vI++vJ)++wK)++yB).length+gBn.length≤4294967296) (
(some ((((vI++vJ)++wK)++yB)++gBn)))))) fun b5=>
gd (b5.length+qX.length≤4294967296) (
gd ((b5++qX).length+uI.length≤4294967296) (
gd (((b5++qX)++uI).length+vK.length≤4294967296) (
gd ((((b5++qX)++uI)++vK).length+uW.length≤4294967296) (
gd (((((b5++qX)++uI)++vK)++uW).length+vU.length≤4294967296) (
gd ((((((b5++qX)++uI)++vK)++uW)++vU).length+wV.length≤4294967296) (
gd (((((((b5++qX)++uI)++vK)++uW)++vU)++wV).length+([41]:List UInt8).length≤4294967296) (
(some ((((((((b5++qX)++uI)++vK)++uW)++vU)++wV)++([41]:List UInt8)),x4.2))))))))))))
set_option maxRecDepth 100000 in
theorem gWo(c:jA){r:List UInt8 × jA}(h:gHy c=some r):Go.Eng.Spec Tryz.prog 47 [.ptr 0 0] [.box [.L 1 (kQ c.b),.I c.i,.I c.h]] (fun sv Lo=>sv=.S r.1∧Lo=[.box [.L 1 (kQ r.2.b),.I r.2.i,.I r.2.h]]):=by
 obtain⟨c_0,c_1,c_2⟩:=c
 unfold gHy at h
 refine mP 1 Tryz.func47 rfl (by kernel_rfl) rfl rfl fun A _=>?_
 refine goL ?_
 obtain⟨g1,h⟩:=mZ h
 refine jI (vB g1) ?_
 obtain⟨g2,h⟩:=mZ h
 refine jI (vB g2) ?_
 obtain⟨g3,h⟩:=mZ h
 refine jI (vB g3) ?_
 obtain⟨⟨x4_0,⟨x4_1_0,x4_1_1,x4_1_2⟩⟩,hx4,h⟩:=gK h
 refine zI 0 (gG1 (jA.mk c_0 c_1 c_2) 2 hx4) ?_
 refine goL ?_
 obtain⟨b5,hb5,h⟩:=gK h
 refine gD4 ⟨[(3,.S b5)],[.box [.L 1 (kQ x4_1_0),.I x4_1_1,.I x4_1_2]],Tryz.f47.ntmps⟩ ?_ ?_
 ·refine mO (fun c6=>?_) (fun c6=>?_)
  ·replace hb5:=gX c6 hb5
   refine goL ?_
   obtain⟨g7,hb5⟩:=mZ hb5
   refine jI (vB g7) ?_
   cases hb5
   exact eJ
  ·replace hb5:=gY c6 hb5
   refine goL ?_
   obtain⟨g8,hb5⟩:=mZ hb5
   refine jI (vB g8) ?_
   cases hb5
   exact eJ
 refine goL ?_
 obtain⟨g9,h⟩:=mZ h
 refine jI (vB g9) ?_
 obtain⟨g10,h⟩:=mZ h
 refine jI (vB g10) ?_
 obtain⟨g11,h⟩:=mZ h
 refine jI (vB g11) ?_
 obtain⟨g12,h⟩:=mZ h
 refine jI (vB g12) ?_
 obtain⟨g13,h⟩:=mZ h
 refine jI (vB g13) ?_
 obtain⟨g14,h⟩:=mZ h
 refine jI (vB g14) ?_
 obtain⟨g15,h⟩:=mZ h
 refine jI (vB g15) ?_
 refine jN ?_
 obtain rfl:=Option.some.inj h
 exact gFk [.d (.s (((((((b5++qX)++uI)++vK)++uW)++vU)++wV)++([41]:List UInt8)))] [.box [.L 1 (kQ x4_1_0),.I x4_1_1,.I x4_1_2]] ⟨rfl,rfl⟩
end Go.Proofs.YtfaplndgbgoaaaaGreatDoor
