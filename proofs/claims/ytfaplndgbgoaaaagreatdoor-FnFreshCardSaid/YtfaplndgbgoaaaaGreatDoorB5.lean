import Derived.Test.YtfaplndgbgoaaaaGreatDoorEng38
import Derived.Test.YtfaplndgbgoaaaaGreatDoorEng67
import Derived.Test.YtfaplndgbgoaaaaGreatDoorSfi0
import Derived.Test.YtfaplndgbgoaaaaGreatDoorB2
import Derived.Test.YtfaplndgbgoaaaaGreatDoorB3
set_option maxHeartbeats 4000000
set_option linter.unusedVariables false
set_option linter.unusedSimpArgs false
set_option linter.unusedSectionVars false
namespace Go.Proofs.YtfaplndgbgoaaaaGreatDoor
open Go Go.Eng
attribute [local irreducible] V VO VQ VY Quiet QR jB kX Rng uJ uY qW
def uH(rec_l2Read:uE→Option (gB × uE)):Nat→(List UInt8)→Int→Int→Int→Bool→(List gB)→Option (gB × uE)
 | 0,y17,y18,y19,y20,y21,y22=>none
 | n24+1,y17,y18,y19,y20,y21,y22=>(cnd (!y21) (
bnd (gKy (uE.mk y17 y18 y19 y20 y21)) fun x26=>
bnd ((cnd (decide (x26.at_ < (x26.s.length:Int))) (bnd (at? x26.s x26.at_) fun x29=>
(some ((x29.toNat:Int)==41))) ((some false)))) fun b27=>
(cnd b27 (
(some ((gB.mk [] y22),(uE.mk x26.s (IntKind.i64.wrap (x26.at_+1)) (IntKind.i64.wrap (x26.deep - 1)) x26.size x26.bad)))) (
bnd (rec_l2Read x26) fun x31=>
gd (y22.length+[x31.1].length≤4294967296) (
uH rec_l2Read n24 x31.2.s x31.2.at_ x31.2.deep x31.2.size x31.2.bad (y22++[x31.1]))))) (
(some ((gB.mk [] y22),(uE.mk y17 y18 y19 y20 y21)))))
def yA(rec_l2Read:uE→Option (gB × uE))(x1:uE)(n0:Nat):Nat→Int→Option (gB × uE)
 | 0,y5=>none
 | n6+1,y5=>bnd ((cnd (decide (y5 < (x1.s.length:Int))) (bnd (at? x1.s y5) fun x9=>
(some (gD9 (x9.toNat:Int)))) ((some false)))) fun b7=>
(cnd b7 (
yA rec_l2Read x1 n0 n6 (IntKind.i64.wrap (y5+1))) (
(cnd (decide (y5 > x1.at_)) (
gd (0≤x1.at_∧x1.at_≤y5∧y5≤(x1.s.length:Int)) (
(some ((gB.mk ((x1.s.drop (Int.toNat x1.at_)).take (Int.toNat y5 - Int.toNat x1.at_)) []),(uE.mk x1.s y5 x1.deep (IntKind.i64.wrap (x1.size+1)) x1.bad))))) (
bnd (bnd (at? x1.s y5) fun x14=>
(cnd ((x14.toNat:Int) != 40) ((some true)) ((some (x1.deep==14))))) fun b13=>
(cnd b13 (
(some ((gB.mk [] []),(uE.mk x1.s y5 x1.deep (IntKind.i64.wrap (x1.size+1)) true)))) (
uH rec_l2Read n0 x1.s (IntKind.i64.wrap (y5+1)) (IntKind.i64.wrap (x1.deep+1)) (IntKind.i64.wrap (x1.size+1)) x1.bad []))))))
def gLn(rec_l2Read:uE→Option (gB × uE))(c:uE)(n0:Nat):Option (gB × uE):=
bnd (gKy c) fun x1=>
lt_ ((cnd (decide (x1.at_≥(x1.s.length:Int))) (true) ((decide ((IntKind.i64.wrap (x1.size+1)) > 900))))) fun b2=>
(cnd b2 (
(some ((gB.mk [] []),(uE.mk x1.s x1.at_ x1.deep (IntKind.i64.wrap (x1.size+1)) true)))) (
yA rec_l2Read x1 n0 n0 x1.at_))
theorem gZ2{rec_l2Read:uE→Option (gB × uE)}(hrec_l2Read:∀(x0:uE) {r:gB × uE},rec_l2Read x0=some r→Go.Eng.Spec Tryz.prog 76 [.ptr 0 0] [.box [.S x0.s,.I x0.at_,.I x0.deep,.I x0.size,.B x0.bad]] (fun sv Lo=>sv=.d (mF r.1)∧Lo=[.box [.S r.2.s,.I r.2.at_,.I r.2.deep,.I r.2.size,.B r.2.bad]]))(c:uE){n0:Nat}{r:gB × uE}(h:gLn rec_l2Read c n0=some r):Go.Eng.Spec Tryz.prog 76 [.ptr 0 0] [.box [.S c.s,.I c.at_,.I c.deep,.I c.size,.B c.bad]] (fun sv Lo=>sv=.d (mF r.1)∧Lo=[.box [.S r.2.s,.I r.2.at_,.I r.2.deep,.I r.2.size,.B r.2.bad]]):=by
 obtain⟨c_0,c_1,c_2,c_3,c_4⟩:=c
 unfold gLn at h
 refine mP 1 Tryz.func76 rfl (by kernel_rfl) rfl rfl fun A _=>?_
 refine goL ?_
 obtain⟨⟨x1_0,x1_1,x1_2,x1_3,x1_4⟩,hx1,h⟩:=gK h
 refine zI 0 (gPt (uE.mk c_0 c_1 c_2 c_3 c_4) hx1) ?_
 refine goL ?_
 refine qP (qC) ?_
 refine gHk ?_
 obtain⟨b2,hb2,h⟩:=qR h
 refine qZ (P:=Tryz.prog) Mix.h ⟨[(0,.ptr 0 0),(2,.ptr 1 0),(31,.B b2)],[.box [.S x1_0,.I x1_1,.I x1_2,.d (.i .i64 (IntKind.i64.wrap (x1_3+1))),.B x1_4],.box [.S [],.nilsl]],Tryz.f76.ntmps⟩ (by kernel_rfl) ?_ ?_
 ·refine goL ?_
  refine vR 25 (fun c3=>?_) (fun c3=>?_)
  ·replace hb2:=gX c3 hb2
   refine goL ?_
   cases hb2
   exact eJ
  ·replace hb2:=gY c3 hb2
   refine goL ?_
   cases hb2
   exact eJ
 refine goC h ?_ ?_<;>intro c4 h
 ·refine goL ?_
  refine gFl (kD TBd.h TZ.h rfl (by repeat constructor)) ?_
  refine jN ?_
  obtain rfl:=Option.some.inj h
  exact gFk [.d (.st [.s [],.sl 2 []])] [.box [.S x1_0,.I x1_1,.I x1_2,.d (.i .i64 (IntKind.i64.wrap (x1_3+1))),.B true]] ⟨rfl,rfl⟩
 ·refine goS ?_
  refine kI (jE ?_)
  show V _ _ _ _ _
  refine gD3 (fun(n6:Nat) (y5:Int)=>⟨[(0,.ptr 0 0),(2,.ptr 1 0),(3,.I x1_1)],[.box [.S x1_0,.I y5,.I x1_2,.d (.i .i64 (IntKind.i64.wrap (x1_3+1))),.B x1_4],.box [.S [],.nilsl]],Tryz.f76.ntmps⟩) (fun n6 y5=>yA rec_l2Read (uE.mk x1_0 x1_1 x1_2 x1_3 x1_4) n0 n6 y5=some r) (fun n6 y5=>n6) n0 x1_1 eJ h ?_
  rintro n6 y5 h
  rcases n6 with _ | n6
  ·cases h
  rw [yA.eq_2] at h
  refine gHk ?_
  obtain⟨b7,hb7,h⟩:=gK h
  refine qZ (P:=Tryz.prog) Mix.h ⟨[(0,.ptr 0 0),(2,.ptr 1 0),(3,.I x1_1),(61,.B b7)],[.box [.S x1_0,.I y5,.I x1_2,.d (.i .i64 (IntKind.i64.wrap (x1_3+1))),.B x1_4],.box [.S [],.nilsl]],Tryz.f76.ntmps⟩ (by kernel_rfl) ?_ ?_
  ·refine goL ?_
   refine vR 50 (fun c8=>?_) (fun c8=>?_)
   ·replace hb7:=gX c8 hb7
    refine goL ?_
    obtain⟨x9,hx9,hb7⟩:=gK hb7
    obtain⟨hx90,hx9⟩:=gD6 hx9
    refine gBe (gGe hx90 hx9) ?_
    refine gBe (gF (gTe (x9.toNat:Int))) ?_
    refine goL ?_
    cases hb7
    exact eJ
   ·replace hb7:=gY c8 hb7
    refine goL ?_
    cases hb7
    exact eJ
  refine goC h ?_ ?_<;>intro c10 h
  ·refine noS ?_
   refine jE ?_
   refine goL ?_
   refine jI (qC) ?_
   exact⟨n6,(IntKind.i64.wrap (y5+1)),h,Nat.lt_succ_self _,eJ⟩
  ·refine goX ?_
   refine mO (fun c11=>?_) (fun c11=>?_)
   ·replace h:=gX c11 h
    refine jL (P:=Tryz.prog) Mix.h [(0,true),(1,true),(2,true),(3,true),(4,true),(5,true),(6,true),(7,true),(8,true),(9,true),(10,true),(11,false)] (by kernel_rfl) ?_
    refine goY ?_
    obtain⟨g12,h⟩:=mZ h
    refine jC rfl (hCq g12) ?_
    refine goY ?_
    refine kS ?_
    refine goL ?_
    refine jN ?_
    obtain rfl:=Option.some.inj h
    exact gFk [.d (.st [.s ((x1_0.drop (Int.toNat x1_1)).take (Int.toNat y5 - Int.toNat x1_1)),.sl 2 []])] [.box [.S x1_0,.I y5,.I x1_2,.d (.i .i64 (IntKind.i64.wrap (x1_3+1))),.B x1_4]] ⟨rfl,rfl⟩
   ·replace h:=gY c11 h
    refine noS ?_
    refine gHk ?_
    obtain⟨b13,hb13,h⟩:=gK h
    refine qZ (P:=Tryz.prog) Mix.h ⟨[(0,.ptr 0 0),(2,.ptr 1 0),(103,.B b13)],[.box [.S x1_0,.I y5,.I x1_2,.d (.i .i64 (IntKind.i64.wrap (x1_3+1))),.B x1_4],.box [.S [],.nilsl]],Tryz.f76.ntmps⟩ (by kernel_rfl) ?_ ?_
    ·refine goL ?_
     obtain⟨x14,hx14,hb13⟩:=gK hb13
     obtain⟨hx140,hx14⟩:=gD6 hx14
     refine gDm (gGe hx140 hx14) ?_
     refine goL ?_
     refine vR 97 (fun c15=>?_) (fun c15=>?_)
     ·replace hb13:=gX c15 hb13
      refine goL ?_
      cases hb13
      exact eJ
     ·replace hb13:=gY c15 hb13
      refine goL ?_
      cases hb13
      exact eJ
    refine goC h ?_ ?_<;>intro c16 h
    ·refine goL ?_
     refine gFl (kD TBd.h TZ.h rfl (by repeat constructor)) ?_
     refine jN ?_
     obtain rfl:=Option.some.inj h
     exact gFk [.d (.st [.s [],.sl 2 []])] [.box [.S x1_0,.I y5,.I x1_2,.d (.i .i64 (IntKind.i64.wrap (x1_3+1))),.B true]] ⟨rfl,rfl⟩
    ·refine goS ?_
     refine jI (qC) ?_
     refine jI (qC) ?_
     refine gFl (kD TBd.h TZ.h rfl (by repeat constructor)) ?_
     refine kI (jE ?_)
     show V _ _ _ _ _
     refine yJ 107 2 2 1 rfl rfl (by repeat constructor) (by repeat constructor) (by repeat constructor) (by repeat constructor) ?_
     show V _ _ _ _ _
     refine hDx (fun(n24:Nat) (y17:List UInt8) (y18:Int) (y19:Int) (y20:Int) (y21:Bool) (y22:List gB) (v23:Nat)=>⟨[(0,.ptr 0 0),(2,.ptr 1 0),(4,.ptr 2 0)],[.box [.S y17,.I y18,.I y19,.I y20,.B y21],.box [.S [],.nilsl],.box [.S [],.sl 3 v23],.arr 107 2 v23 (gM y22)],Tryz.f76.ntmps⟩) (fun n24 y17 y18 y19 y20 y21 y22 v23=>uH rec_l2Read n24 y17 y18 y19 y20 y21 y22=some r) (fun n24 y17 y18 y19 y20 y21 y22 v23=>n24) n0 x1_0 (IntKind.i64.wrap (y5+1)) (IntKind.i64.wrap (x1_2+1)) (IntKind.i64.wrap (x1_3+1)) x1_4 [] 0 eJ h ?_
     rintro n24 y17 y18 y19 y20 y21 y22 v23 h
     rcases n24 with _ | n24
     ·cases h
     rw [uH.eq_2] at h
     refine goC h ?_ ?_<;>intro c25 h
     ·refine noS ?_
      refine jE ?_
      refine goL ?_
      obtain⟨⟨x26_0,x26_1,x26_2,x26_3,x26_4⟩,hx26,h⟩:=gK h
      refine zI 0 (gPt (uE.mk y17 y18 y19 y20 y21) hx26) ?_
      refine gHk ?_
      obtain⟨b27,hb27,h⟩:=gK h
      refine qZ (P:=Tryz.prog) Mix.h ⟨[(0,.ptr 0 0),(2,.ptr 1 0),(4,.ptr 2 0),(153,.B b27)],[.box [.S x26_0,.I x26_1,.I x26_2,.I x26_3,.B x26_4],.box [.S [],.nilsl],.box [.S [],.sl 3 v23],.arr 107 2 v23 (gM y22)],Tryz.f76.ntmps⟩ (by kernel_rfl) ?_ ?_
      ·refine goL ?_
       refine vR 142 (fun c28=>?_) (fun c28=>?_)
       ·replace hb27:=gX c28 hb27
        refine goL ?_
        obtain⟨x29,hx29,hb27⟩:=gK hb27
        obtain⟨hx290,hx29⟩:=gD6 hx29
        refine gBe (gGe hx290 hx29) ?_
        refine goL ?_
        cases hb27
        exact eJ
       ·replace hb27:=gY c28 hb27
        refine goL ?_
        cases hb27
        exact eJ
      refine goC h ?_ ?_<;>intro c30 h
      ·refine goL ?_
       refine jI (qC) ?_
       refine jI (qC) ?_
       refine kK 3 rfl rfl ?_
       refine jN ?_
       obtain rfl:=Option.some.inj h
       exact hOs [.d (.st [.s [],.sl 2 (gM y22)])] [.box [.S x26_0,.d (.i .i64 (IntKind.i64.wrap (x26_1+1))),.d (.i .i64 (IntKind.i64.wrap (x26_2 - 1))),.I x26_3,.B x26_4]] ⟨rfl,rfl⟩
      ·refine noS ?_
       obtain⟨⟨⟨x31_0_0,x31_0_1⟩,⟨x31_1_0,x31_1_1,x31_1_2,x31_1_3,x31_1_4⟩⟩,hx31,h⟩:=gK h
       obtain⟨g32,h⟩:=mZ h
       refine gPn (P:=Tryz.prog) Mix.h (.q 2 (.h 0 (.h 1 (.h 3 (.h 4 (.h 5 (.q 6 (.h 7 .nil .nil)) .nil) .nil) .nil) (.h 3 (.h 1 (.h 4 (.h 5 (.q 6 (.h 7 .nil .nil)) .nil) .nil) (.h 4 (.h 1 (.h 5 (.q 6 (.h 7 .nil .nil)) .nil) .nil) .nil)) .nil)) (.h 3 (.h 0 (.h 1 (.h 4 (.h 5 (.q 6 (.h 7 .nil .nil)) .nil) .nil) (.h 4 (.h 1 (.h 5 (.q 6 (.h 7 .nil .nil)) .nil) .nil) .nil)) (.h 4 (.h 0 (.h 1 (.h 5 (.q 6 (.h 7 .nil .nil)) .nil) .nil) .nil) .nil)) .nil))) ⟨[(0,.ptr 0 0),(2,.ptr 1 0),(4,.ptr 2 0)],[.box [.S x31_1_0,.I x31_1_1,.I x31_1_2,.I x31_1_3,.B x31_1_4],.box [.S [],.nilsl],.box [.S [],.sl 3 (v23+1)],.arr 107 2 (v23+1) (gM (y22++[(gB.mk x31_0_0 x31_0_1)])),.arr 107 2 0 (gM [(gB.mk x31_0_0 x31_0_1)])],Tryz.f76.ntmps⟩ (by kernel_rfl) ?_ ?_
       ·refine goT ?_
        refine wQ (mU jQ) ?_ ?_
        ·refine wQ (mU jQ) ?_ ?_
         ·refine jO (qG 0 (hrec_l2Read (uE.mk x26_0 x26_1 x26_2 x26_3 x26_4) hx31) jQ) ?_
          refine jO (pY (T:=105) (us:=gM [(gB.mk x31_0_0 x31_0_1)]) jQ) ?_
          refine jO (pV (T:=105) g32 jQ) ?_
          refine goT ?_
          refine jW ?_
          exact vG 1 [0,1,2,3,4]
         refine jO (qG 0 (hrec_l2Read (uE.mk x26_0 x26_1 x26_2 x26_3 x26_4) hx31) jQ) ?_
         refine wQ (mU jQ) ?_ ?_
         ·refine jO (pY (T:=105) (us:=gM [(gB.mk x31_0_0 x31_0_1)]) jQ) ?_
          refine jO (pV (T:=105) g32 jQ) ?_
          refine goT ?_
          refine jW ?_
          exact vG 1 [0,1,2,3,4]
         refine jO (pY (T:=105) (us:=gM [(gB.mk x31_0_0 x31_0_1)]) jQ) ?_
         refine jO (mU jQ) ?_
         refine jO (pV (T:=105) g32 jQ) ?_
         refine goT ?_
         refine jW ?_
         exact vG 1 [0,1,2,3,4]
        refine jO (qG 0 (hrec_l2Read (uE.mk x26_0 x26_1 x26_2 x26_3 x26_4) hx31) jQ) ?_
        refine wQ (mU jQ) ?_ ?_
        ·refine wQ (mU jQ) ?_ ?_
         ·refine jO (pY (T:=105) (us:=gM [(gB.mk x31_0_0 x31_0_1)]) jQ) ?_
          refine jO (pV (T:=105) g32 jQ) ?_
          refine goT ?_
          refine jW ?_
          exact vG 1 [0,1,2,3,4]
         refine jO (pY (T:=105) (us:=gM [(gB.mk x31_0_0 x31_0_1)]) jQ) ?_
         refine jO (mU jQ) ?_
         refine jO (pV (T:=105) g32 jQ) ?_
         refine goT ?_
         refine jW ?_
         exact vG 1 [0,1,2,3,4]
        refine jO (pY (T:=105) (us:=gM [(gB.mk x31_0_0 x31_0_1)]) jQ) ?_
        refine jO (mU jQ) ?_
        refine jO (mU jQ) ?_
        refine jO (pV (T:=105) g32 jQ) ?_
        refine goT ?_
        refine jW ?_
        exact vG 1 [0,1,2,3,4]
       refine goL ?_
       exact⟨n24,x31_1_0,x31_1_1,x31_1_2,x31_1_3,x31_1_4,(y22++[(gB.mk x31_0_0 x31_0_1)]),(v23+1),h,Nat.lt_succ_self _,eJ⟩
     ·refine goX ?_
      refine kK 3 rfl rfl ?_
      refine jN ?_
      obtain rfl:=Option.some.inj h
      exact hOs [.d (.st [.s [],.sl 2 (gM y22)])] [.box [.S y17,.I y18,.I y19,.I y20,.B y21]] ⟨rfl,rfl⟩
def gAa:Nat→uE→Option (gB × uE)
 | 0,_=>none
 | n+1,x0=>gLn (gAa n) x0 n
theorem gZ3:∀(n:Nat) (x0:uE) {r:gB × uE},gAa n x0=some r→Go.Eng.Spec Tryz.prog 76 [.ptr 0 0] [.box [.S x0.s,.I x0.at_,.I x0.deep,.I x0.size,.B x0.bad]] (fun sv Lo=>sv=.d (mF r.1)∧Lo=[.box [.S r.2.s,.I r.2.at_,.I r.2.deep,.I r.2.size,.B r.2.bad]]):=by
 intro n
 induction n with
 | zero=>intro x0 r h;cases h
 | succ n ih=>intro x0 r h;exact gZ2 ih x0 h
def yO(a0:List UInt8):List UInt8→Bool
 | []=>(gFe (a0.length:Int) 1 12)
 | x4::xs=>(cnd (!(gD9 (x4.toNat:Int))) (
false) (
yO a0 xs ))
def gC5(a0:List UInt8):Bool:=
yO a0 a0
theorem gNv(a0:List UInt8):jB Tryz.prog 111 [.S a0] [.b (gC5 a0)]:=by
 obtain⟨r,h⟩:∃r,gC5 a0=r:=⟨_,rfl⟩
 rw [h]
 unfold gC5 at h
 refine SpI Tryz.func111 fun A _=>?_
 refine goL ?_
 refine noB ?_
 refine gXm 0 (fun z2=>?_)
 refine pJ (fun(y1:Nat)=>⟨[(0,.S a0),(3,.N y1)],[],Tryz.f111.ntmps⟩) (fun y1=>yO a0 (a0.drop y1)  =r) (fun y1=>a0.length - y1) 0 eJ h ?_
 rintro y1 h
 refine goL ?_
 refine mO (fun c3=>?_) (fun c3=>?_)
 ·have hky12:=hFr c3
  obtain⟨x4,hx4,hdx4⟩:=drop_at hky12
  rw [hdx4,yO.eq_2] at h
  refine noS ?_
  refine kI (jE ?_)
  refine goL ?_
  refine qP (gD2 y1 hx4) ?_
  refine jI (gF (gTe (x4.toNat:Int))) ?_
  refine mO (fun c5=>?_) (fun c5=>?_)
  ·replace h:=gX c5 h
   refine goL ?_
   refine jN ?_
   subst h
   exact qK
  ·replace h:=gY c5 h
   refine goS ?_
   refine jI (jS y1 (by omega)) ?_
   exact⟨(y1+1),h,by omega,eJ⟩
 ·have hky12:=hFs c3
  rw [jF hky12,yO.eq_1] at h
  refine goX ?_
  refine jI (gF (gLb (a0.length:Int) 1 12)) ?_
  refine jN ?_
  subst h
  exact qK
def zM(rec_sSExprDepth:gB→Option (Int)):List gB→Int→Option (Int)
 | [],y2=>(some (IntKind.i64.wrap (y2+1)))
 | x6::xs,y2=>bnd (rec_sSExprDepth x6) fun x7=>
zM rec_sSExprDepth xs (gI5 y2 x7)
def gGv(rec_sSExprDepth:gB→Option (Int))(a0:gB):Option (Int):=
(cnd (!(a0.atom==[])) (
(some 0)) (
zM rec_sSExprDepth a0.list 0))
theorem gO3{rec_sSExprDepth:gB→Option (Int)}(hrec_sSExprDepth:∀(x0:gB) {r:Int},rec_sSExprDepth x0=some r→jB Tryz.prog 95 [.d (mF x0)] [.i .i64 r])(a0:gB){r:Int}(h:gGv rec_sSExprDepth a0=some r):jB Tryz.prog 95 [.d (mF a0)] [.i .i64 r]:=by
 obtain⟨a0_0,a0_1⟩:=a0
 unfold gGv at h
 refine SpI Tryz.func95 fun A _=>?_
 refine goC h ?_ ?_<;>intro c1 h
 ·exact goR h
 ·refine goS ?_
  refine noB ?_
  refine vN 0 1 (fun z4=>?_)
  refine gD3 (fun(y3:Nat) (y2:Int)=>⟨[(1,.ptr 0 0),(3,.I y2),(4,.N y3)],[.box [.S a0_0,.L 2 (gM a0_1)]],Tryz.f95.ntmps⟩) (fun y3 y2=>zM rec_sSExprDepth (a0_1.drop y3) y2=some r) (fun y3 y2=>a0_1.length - y3) 0 0 eJ h ?_
  rintro y3 y2 h
  refine goL ?_
  refine mO (fun c5=>?_) (fun c5=>?_)
  ·have hky32:=wE c5
   obtain⟨x6,hx6,hdx6⟩:=drop_at hky32
   rw [hdx6,zM.eq_2] at h
   obtain⟨x6_0,x6_1⟩:=x6
   refine noS ?_
   refine kI (jE ?_)
   refine goL ?_
   refine jI (jJ y3 (qO hx6)) ?_
   obtain⟨x7,hx7,h⟩:=gK h
   refine qP (gF (hrec_sSExprDepth (gB.mk x6_0 x6_1) hx7)) ?_
   refine jI (gF (gWd y2 x7)) ?_
   refine jI (jS y3 (by omega)) ?_
   exact⟨(y3+1),(gI5 y2 x7),h,by omega,eJ⟩
  ·have hky32:=wF c5
   rw [jF hky32,zM.eq_1] at h
   refine goX ?_
   refine qP (qC) ?_
   exact goR h
def gGw:Nat→gB→Option (Int)
 | 0,_=>none
 | n+1,x0=>gGv (gGw n) x0
theorem gO4:∀(n:Nat) (x0:gB) {r:Int},gGw n x0=some r→jB Tryz.prog 95 [.d (mF x0)] [.i .i64 r]:=by
 intro n
 induction n with
 | zero=>intro x0 r h;cases h
 | succ n ih=>intro x0 r h;exact gO3 ih x0 h
def gAw(a0:gB):Option (List (List UInt8)):=
bnd (gHo a0.list) fun x1=>
(some x1.1)
theorem gCt(a0:gB){r:List (List UInt8)}(h:gAw a0=some r):jB Tryz.prog 113 [.d (mF a0)] [.sl 1 (gZ r)]:=by
 obtain⟨a0_0,a0_1⟩:=a0
 unfold gAw at h
 refine SpI Tryz.func113 fun A _=>?_
 refine goL ?_
 obtain⟨⟨x1_0,x1_1⟩,hx1,h⟩:=gK h
 refine qP (gF (gMa a0_1 hx1)) ?_
 exact goR h
def gGa(a0:gB)(a1:Int):Option (List gB):=
gd (0≤(pI a1 (a0.list.length:Int))∧(pI a1 (a0.list.length:Int))≤(a0.list.length:Int)) (
(some (a0.list.drop (Int.toNat (pI a1 (a0.list.length:Int))))))
theorem gJw(a0:gB)(a1:Int){r:List gB}(h:gGa a0 a1=some r):jB Tryz.prog 114 [.d (mF a0),.I a1] [.sl 2 (gM r)]:=by
 obtain⟨a0_0,a0_1⟩:=a0
 unfold gGa at h
 refine SpI Tryz.func114 fun A _=>?_
 refine goL ?_
 refine gDm (gF (gGs a1 (a0_1.length:Int))) ?_
 obtain⟨g1,h⟩:=mZ h
 refine gDm (gIz g1) ?_
 exact goR h
def gHr(rec_l5Ty:gB→Option (gD))(a0:gB)(x8:gB):List gB→(List gD)→Option (gD)
 | [],y9=>bnd ((cnd (x8.atom==[97,115,115,111,99]) ((cnd ((y9.length:Int)==2) (bnd (at? a0.list 1) fun x20=>
(some (!(x20.atom==[])))) ((some false)))) ((some false)))) fun b17=>
(cnd b17 (
bnd (at? a0.list 1) fun x22=>
gd (0≤(1:Int)∧1≤(y9.length:Int)) (
(some (gD.mk 3 x22.atom (y9.drop (Int.toNat 1)))))) (
bnd ((cnd (x8.atom==[100,121,110]) ((cnd ((y9.length:Int)==1) (bnd (at? a0.list 1) fun x27=>
(some (!(x27.atom==[])))) ((some false)))) ((some false)))) fun b24=>
(cnd b24 (
bnd (at? a0.list 1) fun x29=>
(some (gD.mk 4 x29.atom []))) (
(some (gD.mk 2 x8.atom y9))))))
 | x14::xs,y9=>bnd (rec_l5Ty x14) fun x15=>
gd (y9.length+[x15].length≤4294967296) (
gHr rec_l5Ty a0 x8 xs (y9++[x15]))
def gWm(rec_l5Ty:gB→Option (gD))(a0:gB):Option (gD):=
(cnd (!(a0.atom==[])) (
bnd (at? a0.atom 0) fun x2=>
(cnd ((x2.toNat:Int)==39) (
gd (0≤(1:Int)∧1≤(a0.atom.length:Int)) (
lt_ (gCx (a0.atom.drop (Int.toNat 1))) fun x5=>
(some x5))) (
bnd (gF6 a0.atom []) fun x6=>
(some x6)))) (
(cnd (decide ((a0.list.length:Int) < 2)) (
(some (gD.mk 0 [] []))) (
bnd (at? a0.list 0) fun x8=>
gHr rec_l5Ty a0 x8 (a0.list.drop 1) []))))
theorem hF6{rec_l5Ty:gB→Option (gD)}(hrec_l5Ty:∀(x0:gB) {r:gD},rec_l5Ty x0=some r→jB Tryz.prog 116 [.d (mF x0)] [jP r])(a0:gB){r:gD}(h:gWm rec_l5Ty a0=some r):jB Tryz.prog 116 [.d (mF a0)] [jP r]:=by
 obtain⟨a0_0,a0_1⟩:=a0
 unfold gWm at h
 refine SpI Tryz.func116 fun A _=>?_
 refine goC h ?_ ?_<;>intro c1 h
 ·refine goL ?_
  obtain⟨x2,hx2,h⟩:=gK h
  obtain⟨hx20,hx2⟩:=gD6 hx2
  refine jI (gGe hx20 hx2) ?_
  refine mO (fun c3=>?_) (fun c3=>?_)
  ·replace h:=gX c3 h
   refine goL ?_
   obtain⟨g4,h⟩:=mZ h
   refine qP (hCr g4) ?_
   obtain⟨⟨x5_0,x5_1,x5_2⟩,hx5,h⟩:=qR h
   have sx5:=gKw (a0_0.drop (Int.toNat 1))
   rw [hx5] at sx5
   refine qP (gF (sx5)) ?_
   exact goR h
  ·replace h:=gY c3 h
   refine goS ?_
   obtain⟨⟨x6_0,x6_1,x6_2⟩,hx6,h⟩:=gK h
   refine qP (gF (gKx a0_0 [] hx6)) ?_
   exact goR h
 ·refine goS ?_
  refine mO (fun c7=>?_) (fun c7=>?_)
  ·replace h:=gX c7 h
   refine goL ?_
   refine gA6 (kD TBd.h TZ.h rfl (by repeat constructor)) ?_
   exact goR h
  ·replace h:=gY c7 h
   refine goS ?_
   obtain⟨x8,hx8,h⟩:=gK h
   obtain⟨hx80,hx8⟩:=gD6 hx8
   obtain⟨x8_0,x8_1⟩:=x8
   refine jI (qU hx80 (qO hx8)) ?_
   refine zN ?_
   refine goL ?_
   refine noB ?_
   refine gFj 21 (fun z12=>?_)
   refine kR (fun(y11:Nat) (y9:List gD) (v10:Nat)=>⟨[(1,.ptr 0 0),(2,.ptr 1 0),(3,.S x8_0),(4,.sl 2 v10),(5,.N y11)],[.box [.S a0_0,.L 2 (gM a0_1)],.box [.I 0,.S [],.nilsl],.arr 32 3 v10 (gJ y9)],Tryz.f116.ntmps⟩) (fun y11 y9 v10=>gHr rec_l5Ty (gB.mk a0_0 a0_1) (gB.mk x8_0 x8_1) (a0_1.drop y11) y9=some r) (fun y11 y9 v10=>a0_1.length - y11) 1 [] 0 eJ h ?_
   rintro y11 y9 v10 h
   refine goL ?_
   refine mO (fun c13=>?_) (fun c13=>?_)
   ·have hky112:=wE c13
    obtain⟨x14,hx14,hdx14⟩:=drop_at hky112
    rw [hdx14,gHr.eq_2] at h
    obtain⟨x14_0,x14_1⟩:=x14
    refine noS ?_
    refine kI (jE ?_)
    refine goL ?_
    refine jI (jJ y11 (qO hx14)) ?_
    obtain⟨⟨x15_0,x15_1,x15_2⟩,hx15,h⟩:=gK h
    refine qP (gF (hrec_l5Ty (gB.mk x14_0 x14_1) hx15)) ?_
    refine gBc (u:=(.st [.i .i64 x15_0,.s x15_1,.sl 3 (gJ x15_2)])) ?_
    obtain⟨g16,h⟩:=mZ h
    refine gBf g16 ?_
    refine goL ?_
    refine jI (jS y11 (by omega)) ?_
    exact⟨(y11+1),(y9++[(gD.mk x15_0 x15_1 x15_2)]),(v10+1),h,by omega,eJ⟩
   ·have hky112:=wF c13
    rw [jF hky112,gHr.eq_1] at h
    refine noX ?_
    refine kI (jE ?_)
    refine goL ?_
    obtain⟨b17,hb17,h⟩:=gK h
    refine jU ⟨[(1,.ptr 0 0),(2,.ptr 1 0),(3,.S x8_0),(4,.sl 2 v10),(47,.B b17)],[.box [.S a0_0,.L 2 (gM a0_1)],.box [.I 0,.S [],.nilsl],.arr 32 3 v10 (gJ y9)],Tryz.f116.ntmps⟩ ?_ ?_
    ·refine gN 50 (fun c18=>?_) (fun c18=>?_) (by first | rfl | (simp only [jG,gU];rfl))
     ·replace hb17:=gX c18 hb17
      refine goL ?_
      refine gN 55 (fun c19=>?_) (fun c19=>?_) (by first | rfl | (simp only [jG,gU];rfl))
      ·replace hb17:=gX c19 hb17
       refine goL ?_
       refine uD ?_
       obtain⟨x20,hx20,hb17⟩:=gK hb17
       obtain⟨hx200,hx20⟩:=gD6 hx20
       obtain⟨x20_0,x20_1⟩:=x20
       refine jI (qU hx200 (qO hx20)) ?_
       cases hb17
       exact⟨rfl,⟨⟨rfl,rfl⟩,⟨rfl,rfl⟩,⟨rfl,rfl⟩,⟨rfl,rfl⟩,⟨by first | rfl | (simp only [jG,gU];rfl),rfl⟩,trivial⟩,⟨_,rfl⟩,rfl⟩
      ·replace hb17:=gY c19 hb17
       refine goL ?_
       cases hb17
       exact⟨rfl,⟨⟨rfl,rfl⟩,⟨rfl,rfl⟩,⟨rfl,rfl⟩,⟨rfl,rfl⟩,⟨by first | rfl | (simp only [jG,gU];rfl),rfl⟩,trivial⟩,⟨_,rfl⟩,rfl⟩
     ·replace hb17:=gY c18 hb17
      refine goL ?_
      cases hb17
      exact⟨rfl,⟨⟨rfl,rfl⟩,⟨rfl,rfl⟩,⟨rfl,rfl⟩,⟨rfl,rfl⟩,⟨by first | rfl | (simp only [jG,gU];rfl),rfl⟩,trivial⟩,⟨_,rfl⟩,rfl⟩
    refine goC h ?_ ?_<;>intro c21 h
    ·refine kK 2 rfl rfl ?_
     refine hKg ?_
     refine jL (P:=Tryz.prog) Mix.h [(0,true),(1,true),(2,true),(3,true),(4,true),(5,true),(6,true),(7,true),(8,false)] (by kernel_rfl) ?_
     refine goY ?_
     obtain⟨x22,hx22,h⟩:=gK h
     obtain⟨hx220,hx22⟩:=gD6 hx22
     obtain⟨x22_0,x22_1⟩:=x22
     refine jC rfl (qU hx220 (qO hx22)) ?_
     refine goY ?_
     obtain⟨g23,h⟩:=mZ h
     refine jC rfl (gIz g23) ?_
     refine goY ?_
     refine kS ?_
     exact goR h
    ·refine goL ?_
     obtain⟨b24,hb24,h⟩:=gK h
     refine jU ⟨[(1,.ptr 0 0),(2,.ptr 1 0),(3,.S x8_0),(4,.sl 2 v10),(71,.B b24)],[.box [.S a0_0,.L 2 (gM a0_1)],.box [.I 0,.S [],.nilsl],.arr 32 3 v10 (gJ y9)],Tryz.f116.ntmps⟩ ?_ ?_
     ·refine gN 74 (fun c25=>?_) (fun c25=>?_) (by first | rfl | (simp only [jG,gU];rfl))
      ·replace hb24:=gX c25 hb24
       refine goL ?_
       refine gN 79 (fun c26=>?_) (fun c26=>?_) (by first | rfl | (simp only [jG,gU];rfl))
       ·replace hb24:=gX c26 hb24
        refine goL ?_
        refine uD ?_
        obtain⟨x27,hx27,hb24⟩:=gK hb24
        obtain⟨hx270,hx27⟩:=gD6 hx27
        obtain⟨x27_0,x27_1⟩:=x27
        refine jI (qU hx270 (qO hx27)) ?_
        cases hb24
        exact⟨rfl,⟨⟨rfl,rfl⟩,⟨rfl,rfl⟩,⟨rfl,rfl⟩,⟨rfl,rfl⟩,⟨by first | rfl | (simp only [jG,gU];rfl),rfl⟩,trivial⟩,⟨_,rfl⟩,rfl⟩
       ·replace hb24:=gY c26 hb24
        refine goL ?_
        cases hb24
        exact⟨rfl,⟨⟨rfl,rfl⟩,⟨rfl,rfl⟩,⟨rfl,rfl⟩,⟨rfl,rfl⟩,⟨by first | rfl | (simp only [jG,gU];rfl),rfl⟩,trivial⟩,⟨_,rfl⟩,rfl⟩
      ·replace hb24:=gY c25 hb24
       refine goL ?_
       cases hb24
       exact⟨rfl,⟨⟨rfl,rfl⟩,⟨rfl,rfl⟩,⟨rfl,rfl⟩,⟨rfl,rfl⟩,⟨by first | rfl | (simp only [jG,gU];rfl),rfl⟩,trivial⟩,⟨_,rfl⟩,rfl⟩
     refine goC h ?_ ?_<;>intro c28 h
     ·refine goL ?_
      obtain⟨x29,hx29,h⟩:=gK h
      obtain⟨hx290,hx29⟩:=gD6 hx29
      obtain⟨x29_0,x29_1⟩:=x29
      refine jI (qU hx290 (qO hx29)) ?_
      refine gA6 (kD TBd.h TZ.h rfl (by repeat constructor)) ?_
      exact goR h
     ·refine goS ?_
      refine gFl (kD TBd.h TZ.h rfl (by repeat constructor)) ?_
      refine kK 2 rfl rfl ?_
      refine jN ?_
      cases h
      exact qK
def gIv:Nat→gB→Option (gD)
 | 0,_=>none
 | n+1,x0=>gWm (gIv n) x0
theorem gK5:∀(n:Nat) (x0:gB) {r:gD},gIv n x0=some r→jB Tryz.prog 116 [.d (mF x0)] [jP r]:=by
 intro n
 induction n with
 | zero=>intro x0 r h;cases h
 | succ n ih=>intro x0 r h;exact hF6 ih x0 h
def gI8(a0:List UInt8):Option (Int × Bool):=
bnd (gOx a0 12) fun x1=>
(some (x1.1,x1.2))
theorem gSe(a0:List UInt8){r:Int × Bool}(h:gI8 a0=some r):jB Tryz.prog 136 [.S a0] [.i .i64 r.1,.b r.2]:=by
 unfold gI8 at h
 refine SpI Tryz.func136 fun A _=>?_
 refine goL ?_
 obtain⟨⟨x1_0,x1_1⟩,hx1,h⟩:=gK h
 refine qP (gF (gZw a0 12 hx1)) ?_
 exact goR h
def yP:List UInt8→Nat→Bool
 | [],y4=>true
 | x7::xs,y4=>lt_ ((cnd (decide ((x7.toNat:Int)≥97)) ((decide ((x7.toNat:Int)≤122))) (false))) fun b8=>
lt_ ((cnd (!b8) ((cnd ((y4:Int)==0) (true) ((cnd (decide ((x7.toNat:Int) < 48)) (true) ((decide ((x7.toNat:Int) > 57))))))) (false))) fun b10=>
(cnd b10 (
false) (
yP xs (y4+1)))
def kW(a0:List UInt8):Bool:=
lt_ ((cnd (!(gFe (a0.length:Int) 1 8)) (true) ((gEb a0)))) fun b1=>
(cnd b1 (
false) (
yP a0 0))
theorem pK(a0:List UInt8):jB Tryz.prog 101 [.S a0] [.b (kW a0)]:=by
 obtain⟨r,h⟩:∃r,kW a0=r:=⟨_,rfl⟩
 rw [h]
 unfold kW at h
 refine SpI Tryz.func101 fun A _=>?_
 refine goL ?_
 refine jI (gF (gLb (a0.length:Int) 1 8)) ?_
 obtain⟨b1,hb1,h⟩:=qR h
 refine jU ⟨[(0,.S a0),(12,.B b1)],[],Tryz.f101.ntmps⟩ ?_ ?_
 ·refine gN 9 (fun c2=>?_) (fun c2=>?_)
  ·replace hb1:=gX c2 hb1
   refine goL ?_
   cases hb1
   exact eJ
  ·replace hb1:=gY c2 hb1
   refine goL ?_
   refine uD ?_
   refine jI (gF (gOz a0)) ?_
   cases hb1
   exact eJ
 refine goC h ?_ ?_<;>intro c3 h
 ·refine goL ?_
  refine jN ?_
  subst h
  exact qK
 ·refine goS ?_
  refine noB ?_
  refine gXm 0 (fun z5=>?_)
  refine pJ (fun(y4:Nat)=>⟨[(0,.S a0),(3,.N y4)],[],Tryz.f101.ntmps⟩) (fun y4=>yP (a0.drop y4) y4=r) (fun y4=>a0.length - y4) 0 eJ h ?_
  rintro y4 h
  refine goL ?_
  refine mO (fun c6=>?_) (fun c6=>?_)
  ·have hky42:=hFr c6
   obtain⟨x7,hx7,hdx7⟩:=drop_at hky42
   rw [hdx7,yP.eq_2] at h
   refine noS ?_
   refine kI (jE ?_)
   refine goL ?_
   refine jI (gD2 y4 hx7) ?_
   obtain⟨b8,hb8,h⟩:=qR h
   refine jU ⟨[(0,.S a0),(3,.N y4),(4,.B b8)],[],Tryz.f101.ntmps⟩ ?_ ?_
   ·refine gN 23 (fun c9=>?_) (fun c9=>?_)
    ·replace hb8:=gX c9 hb8
     refine goL ?_
     refine uD ?_
     refine jI (gD2 y4 hx7) ?_
     cases hb8
     exact eJ
    ·replace hb8:=gY c9 hb8
     refine goL ?_
     cases hb8
     exact eJ
   refine goL ?_
   obtain⟨b10,hb10,h⟩:=qR h
   refine jU ⟨[(0,.S a0),(3,.N y4),(46,.B b10)],[],Tryz.f101.ntmps⟩ ?_ ?_
   ·refine gN 31 (fun c11=>?_) (fun c11=>?_)
    ·replace hb10:=gX c11 hb10
     refine goL ?_
     refine gN 34 (fun c12=>?_) (fun c12=>?_)
     ·replace hb10:=gX c12 hb10
      refine goL ?_
      cases hb10
      exact eJ
     ·replace hb10:=gY c12 hb10
      refine goL ?_
      refine uD ?_
      refine jI (gD2 y4 hx7) ?_
      refine gN 40 (fun c13=>?_) (fun c13=>?_)
      ·replace hb10:=gX c13 hb10
       refine goL ?_
       cases hb10
       exact eJ
      ·replace hb10:=gY c13 hb10
       refine goL ?_
       refine uD ?_
       refine jI (gD2 y4 hx7) ?_
       cases hb10
       exact eJ
    ·replace hb10:=gY c11 hb10
     refine goL ?_
     cases hb10
     exact eJ
   refine goC h ?_ ?_<;>intro c14 h
   ·refine goL ?_
    refine jN ?_
    subst h
    exact qK
   ·refine goS ?_
    refine jI (jS y4 (by omega)) ?_
    exact⟨(y4+1),h,by omega,eJ⟩
  ·have hky42:=hFs c6
   rw [jF hky42,yP.eq_1] at h
   refine goX ?_
   refine jN ?_
   subst h
   exact qK
def gAd(rec_sTypeDepth:gD→Option (Int)):List gD→Int→Option (Int)
 | [],y1=>(some y1)
 | x5::xs,y1=>bnd (rec_sTypeDepth x5) fun x6=>
gAd rec_sTypeDepth xs (gI5 y1 (IntKind.i64.wrap ((1:Int)+x6)))
def gHs(rec_sTypeDepth:gD→Option (Int))(a0:gD):Option (Int):=
gAd rec_sTypeDepth a0.args 0
theorem gQh{rec_sTypeDepth:gD→Option (Int)}(hrec_sTypeDepth:∀(x0:gD) {r:Int},rec_sTypeDepth x0=some r→jB Tryz.prog 184 [.d (jP x0)] [.i .i64 r])(a0:gD){r:Int}(h:gHs rec_sTypeDepth a0=some r):jB Tryz.prog 184 [.d (jP a0)] [.i .i64 r]:=by
 obtain⟨a0_0,a0_1,a0_2⟩:=a0
 unfold gHs at h
 refine SpI Tryz.func184 fun A _=>?_
 refine goL ?_
 refine noB ?_
 refine vN 0 2 (fun z3=>?_)
 refine gD3 (fun(y2:Nat) (y1:Int)=>⟨[(1,.ptr 0 0),(3,.I y1),(4,.N y2)],[.box [.I a0_0,.S a0_1,.L 3 (gJ a0_2)]],Tryz.f184.ntmps⟩) (fun y2 y1=>gAd rec_sTypeDepth (a0_2.drop y2) y1=some r) (fun y2 y1=>a0_2.length - y2) 0 0 eJ h ?_
 rintro y2 y1 h
 refine goL ?_
 refine mO (fun c4=>?_) (fun c4=>?_)
 ·have hky22:=wE c4
  obtain⟨x5,hx5,hdx5⟩:=drop_at hky22
  rw [hdx5,gAd.eq_2] at h
  obtain⟨x5_0,x5_1,x5_2⟩:=x5
  refine noS ?_
  refine kI (jE ?_)
  refine goL ?_
  refine jI (jJ y2 (gBb hx5)) ?_
  obtain⟨x6,hx6,h⟩:=gK h
  refine qP (gF (hrec_sTypeDepth (gD.mk x5_0 x5_1 x5_2) hx6)) ?_
  refine qP (qC) ?_
  refine jI (gF (gWd y1 (IntKind.i64.wrap ((1:Int)+x6)))) ?_
  refine jI (jS y2 (by omega)) ?_
  exact⟨(y2+1),(gI5 y1 (IntKind.i64.wrap ((1:Int)+x6))),h,by omega,eJ⟩
 ·have hky22:=wF c4
  rw [jF hky22,gAd.eq_1] at h
  refine goX ?_
  refine jN ?_
  cases h
  exact qK
def gHt:Nat→gD→Option (Int)
 | 0,_=>none
 | n+1,x0=>gHs (gHt n) x0
theorem gQi:∀(n:Nat) (x0:gD) {r:Int},gHt n x0=some r→jB Tryz.prog 184 [.d (jP x0)] [.i .i64 r]:=by
 intro n
 induction n with
 | zero=>intro x0 r h;cases h
 | succ n ih=>intro x0 r h;exact gQh ih x0 h
def gD1(a0:jM):Option (List (List UInt8)):=
bnd (gMc 5000 a0 [] []) fun x1=>
(some x1)
theorem gLg(a0:jM){r:List (List UInt8)}(h:gD1 a0=some r):jB Tryz.prog 171 [.d (yR a0)] [.sl 1 (gZ r)]:=by
 obtain⟨a0_0,a0_1,a0_2,a0_3,⟨a0_4_0,a0_4_1,a0_4_2⟩,a0_5,a0_6⟩:=a0
 unfold gD1 at h
 refine SpI Tryz.func171 fun A _=>?_
 refine goL ?_
 refine gFc ?_
 refine gFc ?_
 refine gKr 1 rfl rfl ?_
 obtain⟨x1,hx1,h⟩:=gK h
 refine gG0 [2] (gWh 5000 (jM.mk a0_0 a0_1 a0_2 a0_3 (gD.mk a0_4_0 a0_4_1 a0_4_2) a0_5 a0_6) [] [] 0 hx1) ?_
 rintro _ _ ⟨v2,rfl,rfl⟩
 show VO _ _ _ _ ⟨(_,.sl 2 v2)::_,[.box [.I a0_0,.S a0_1,.S a0_2,.I a0_3,.I a0_4_0,.S a0_4_1,.L 3 (gJ a0_4_2),.L 9 (kP a0_5),.L 11 (qD a0_6)],.frz 9 1 0 [],.own 9 1 v2 (gZ x1)],_⟩ _
 refine goL ?_
 refine wL 2 rfl rfl ?_
 refine jN ?_
 cases h
 exact qK
end Go.Proofs.YtfaplndgbgoaaaaGreatDoor
