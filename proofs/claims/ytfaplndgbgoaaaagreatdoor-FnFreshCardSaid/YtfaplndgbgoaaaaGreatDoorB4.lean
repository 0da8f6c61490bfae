import Derived.Test.YtfaplndgbgoaaaaGreatDoorEng38
import Derived.Test.YtfaplndgbgoaaaaGreatDoorEng67
import Derived.Test.YtfaplndgbgoaaaaGreatDoorSfi0
import Derived.Test.YtfaplndgbgoaaaaGreatDoorCur
import Derived.Test.YtfaplndgbgoaaaaGreatDoorB2
import Derived.Test.YtfaplndgbgoaaaaGreatDoorUn1
set_option maxHeartbeats 4000000
set_option linter.unusedVariables false
set_option linter.unusedSimpArgs false
set_option linter.unusedSectionVars false
namespace Go.Proofs.YtfaplndgbgoaaaaGreatDoor
open Go Go.Eng
attribute [local irreducible] V VO VQ VY Quiet QR jB kX Rng uJ uY qW
def gAv(a0:gG)(x1:List gI)(y2:List kE):List kH→(List kH)→Option (gG)
 | [],y13=>(some (gG.mk a0.next a0.count a0.node x1 y2 y13 a0.code a0.at_))
 | x18::xs,y13=>gd (tok x18.goal.type_) (lt_ (idT x18.goal.type_) fun x20=>
gd (y13.length+[(kH.mk (jD.mk x18.goal.trait x20) x18.node)].length≤4294967296) (
gAv a0 x1 y2 xs (y13++[(kH.mk (jD.mk x18.goal.trait x20) x18.node)])))
def wU(a0:gG)(x1:List gI):List kE→(List kE)→Option (gG)
 | [],y2=>gAv a0 x1 y2 a0.obligations []
 | x7::xs,y2=>gd (tok x7.a) (lt_ (idT x7.a) fun x9=>
gd (tok x7.b) (lt_ (idT x7.b) fun x11=>
gd (y2.length+[(kE.mk x9 x11 x7.node)].length≤4294967296) (
wU a0 x1 xs (y2++[(kE.mk x9 x11 x7.node)]))))
def gF9(a0:gG):Option (gG):=
bnd (gLw a0.bindings) fun x1=>
wU a0 x1 a0.equations []
theorem gU7(a0:gG){r:gG}(h:gF9 a0=some r):jB Tryz.prog 37 [.d (mE a0)] [mE r]:=by
 obtain⟨a0_0,a0_1,a0_2,a0_3,a0_4,a0_5,a0_6,a0_7⟩:=a0
 unfold gF9 at h
 refine SpI Tryz.func37 fun A _=>?_
 refine goL ?_
 obtain⟨x1,hx1,h⟩:=gK h
 refine jI (gF (hBe a0_3 hx1)) ?_
 refine zN ?_
 refine goL ?_
 refine noB ?_
 refine vN 0 4 (fun z5=>?_)
 refine kR (fun(y4:Nat) (y2:List kE) (v3:Nat)=>⟨[(1,.ptr 0 0),(2,.ptr 1 0),(3,.ptr 2 0),(4,.N y4)],[.box [.I a0_0,.I a0_1,.I a0_2,.L 4 (gQ a0_3),.L 7 (jY a0_4),.L 5 (jR a0_5),.I a0_6,.I a0_7],.box [.I 0,.I 0,.I 0,.nilsl,.nilsl,.nilsl,.I 0,.I 0],.box [.I a0_0,.I a0_1,.I a0_2,.L 4 (gQ x1),.sl 3 v3,.L 5 (jR a0_5),.I a0_6,.I a0_7],.arr 69 7 v3 (jY y2)],Tryz.f37.ntmps⟩) (fun y4 y2 v3=>wU (gG.mk a0_0 a0_1 a0_2 a0_3 a0_4 a0_5 a0_6 a0_7) x1 (a0_4.drop y4) y2=some r) (fun y4 y2 v3=>a0_4.length - y4) 0 [] 0 eJ h ?_
 rintro y4 y2 v3 h
 refine goL ?_
 refine mO (fun c6=>?_) (fun c6=>?_)
 ·have hky42:=wE c6
  obtain⟨x7,hx7,hdx7⟩:=drop_at hky42
  rw [hdx7,wU.eq_2] at h
  obtain⟨⟨x7_0_0,x7_0_1,x7_0_2⟩,⟨x7_1_0,x7_1_1,x7_1_2⟩,x7_2⟩:=x7
  refine noS ?_
  refine kI (jE ?_)
  refine uX (P:=Tryz.prog) Mix.h [(0,true),(1,true),(2,true),(3,true),(4,true),(5,true),(6,true),(7,true),(8,true),(9,true),(10,true),(11,true),(12,true),(13,true),(14,true),(15,true),(16,true),(17,true),(18,true),(19,true),(20,true),(21,true),(22,true),(23,false),(24,false),(25,true),(26,false)] (by kernel_rfl) ?_
  refine goY ?_
  refine jC rfl (jJ y4 (gJ5 hx7)) ?_
  refine goY ?_
  obtain⟨g8,h⟩:=mZ h
  obtain⟨⟨x9_0,x9_1,x9_2⟩,hx9,h⟩:=qR h
  have sx9:=(yD (gD.mk x7_0_0 x7_0_1 x7_0_2) g8).p
  rw [hx9] at sx9
  refine jC rfl (gF (sx9)) ?_
  refine goY ?_
  refine jC rfl (jJ y4 (gJ5 hx7)) ?_
  refine goY ?_
  obtain⟨g10,h⟩:=mZ h
  obtain⟨⟨x11_0,x11_1,x11_2⟩,hx11,h⟩:=qR h
  have sx11:=(yD (gD.mk x7_1_0 x7_1_1 x7_1_2) g10).p
  rw [hx11] at sx11
  refine jC rfl (gF (sx11)) ?_
  refine goY ?_
  refine jC rfl (jJ y4 (gJ5 hx7)) ?_
  refine goY ?_
  refine pY (T:=25) (us:=jY [(kE.mk (gD.mk x9_0 x9_1 x9_2) (gD.mk x11_0 x11_1 x11_2) x7_2)]) ?_
  obtain⟨g12,h⟩:=mZ h
  refine pV (T:=25) g12 ?_
  refine goY ?_
  refine kS ?_
  refine goL ?_
  refine jI (jS y4 (by omega)) ?_
  exact⟨(y4+1),(y2++[(kE.mk (gD.mk x9_0 x9_1 x9_2) (gD.mk x11_0 x11_1 x11_2) x7_2)]),(v3+1),h,by omega,eJ⟩
 ·have hky42:=wF c6
  rw [jF hky42,wU.eq_1] at h
  refine goX ?_
  refine zN ?_
  refine goL ?_
  refine noB ?_
  refine vN 0 5 (fun z16=>?_)
  refine kR (fun(y15:Nat) (y13:List kH) (v14:Nat)=>⟨[(1,.ptr 0 0),(2,.ptr 1 0),(3,.ptr 2 0),(5,.N y15)],[.box [.I a0_0,.I a0_1,.I a0_2,.L 4 (gQ a0_3),.L 7 (jY a0_4),.L 5 (jR a0_5),.I a0_6,.I a0_7],.box [.I 0,.I 0,.I 0,.nilsl,.nilsl,.nilsl,.I 0,.I 0],.box [.I a0_0,.I a0_1,.I a0_2,.L 4 (gQ x1),.sl 3 v3,.sl 4 v14,.I a0_6,.I a0_7],.arr 69 7 v3 (jY y2),.arr 72 5 v14 (jR y13)],Tryz.f37.ntmps⟩) (fun y15 y13 v14=>gAv (gG.mk a0_0 a0_1 a0_2 a0_3 a0_4 a0_5 a0_6 a0_7) x1 y2 (a0_5.drop y15) y13=some r) (fun y15 y13 v14=>a0_5.length - y15) 0 [] 0 eJ h ?_
  rintro y15 y13 v14 h
  refine goL ?_
  refine mO (fun c17=>?_) (fun c17=>?_)
  ·have hky152:=wE c17
   obtain⟨x18,hx18,hdx18⟩:=drop_at hky152
   rw [hdx18,gAv.eq_2] at h
   obtain⟨⟨x18_0_0,⟨x18_0_1_0,x18_0_1_1,x18_0_1_2⟩⟩,x18_1⟩:=x18
   refine noS ?_
   refine kI (jE ?_)
   refine goL ?_
   refine qP (jJ y15 (gJc hx18)) ?_
   refine gHk ?_
   refine uX (P:=Tryz.prog) Mix.h [(0,true),(1,true),(2,true),(3,true),(4,true),(5,true),(6,true),(7,true),(8,true),(9,true),(10,true),(11,true),(12,true),(13,true),(14,true),(15,false),(16,false),(17,true),(18,false)] (by kernel_rfl) ?_
   refine goY ?_
   obtain⟨g19,h⟩:=mZ h
   obtain⟨⟨x20_0,x20_1,x20_2⟩,hx20,h⟩:=qR h
   have sx20:=(yD (gD.mk x18_0_1_0 x18_0_1_1 x18_0_1_2) g19).p
   rw [hx20] at sx20
   refine jC rfl (gF (sx20)) ?_
   refine goY ?_
   refine jC rfl (jJ y15 (gJc hx18)) ?_
   refine goY ?_
   refine pY (T:=26) (us:=jR [(kH.mk (jD.mk x18_0_0 (gD.mk x20_0 x20_1 x20_2)) x18_1)]) ?_
   obtain⟨g21,h⟩:=mZ h
   refine pV (T:=26) g21 ?_
   refine goY ?_
   refine kS ?_
   refine goL ?_
   refine jI (jS y15 (by omega)) ?_
   exact⟨(y15+1),(y13++[(kH.mk (jD.mk x18_0_0 (gD.mk x20_0 x20_1 x20_2)) x18_1)]),(v14+1),h,by omega,eJ⟩
  ·have hky152:=wF c17
   rw [jF hky152,gAv.eq_1] at h
   refine goX ?_
   refine kK 3 rfl rfl ?_
   refine kK 4 rfl rfl ?_
   refine jN ?_
   cases h
   exact qK
def gCs(a0:List UInt8)(a1:gD):Option (Bool):=
bnd (qJ 5000 a1 a0) fun x1=>
(some (decide (x1 > 0)))
theorem gMf(a0:List UInt8)(a1:gD){r:Bool}(h:gCs a0 a1=some r):jB Tryz.prog 74 [.S a0,.d (jP a1)] [.b r]:=by
 obtain⟨a1_0,a1_1,a1_2⟩:=a1
 unfold gCs at h
 refine SpI Tryz.func74 fun A _=>?_
 refine goL ?_
 obtain⟨x1,hx1,h⟩:=gK h
 refine qP (gF (gIu 5000 (gD.mk a1_0 a1_1 a1_2) a0 hx1)) ?_
 exact goR h
def pM(a1:jD):List jK→Nat→Int
 | [],y1=>(-1)
 | x4::xs,y1=>(cnd (gDr x4.goal a1) (
(y1:Int)) (
pM a1 xs (y1+1)))
def qB(a0:List jK)(a1:jD):Int:=
pM a1 a0 0
theorem gKk(a0:List jK)(a1:jD):jB Tryz.prog 156 [.L 6 (kZ a0),.d (gAh a1)] [.i .i64 (qB a0 a1)]:=by
 obtain⟨r,h⟩:∃r,qB a0 a1=r:=⟨_,rfl⟩
 rw [h]
 obtain⟨a1_0,⟨a1_1_0,a1_1_1,a1_1_2⟩⟩:=a1
 unfold qB at h
 refine SpI Tryz.func156 fun A _=>?_
 refine goL ?_
 refine noB ?_
 refine gFj 0 (fun z2=>?_)
 refine pJ (fun(y1:Nat)=>⟨[(0,.L 6 (kZ a0)),(3,.ptr 0 0),(5,.N y1)],[.box [.S a1_0,.I a1_1_0,.S a1_1_1,.L 3 (gJ a1_1_2)]],Tryz.f156.ntmps⟩) (fun y1=>pM (jD.mk a1_0 (gD.mk a1_1_0 a1_1_1 a1_1_2)) (a0.drop y1) y1=r) (fun y1=>a0.length - y1) 0 eJ h ?_
 rintro y1 h
 refine goL ?_
 refine mO (fun c3=>?_) (fun c3=>?_)
 ·have hky12:=wE c3
  obtain⟨x4,hx4,hdx4⟩:=drop_at hky12
  rw [hdx4,pM.eq_2] at h
  obtain⟨⟨x4_0_0,⟨x4_0_1_0,x4_0_1_1,x4_0_1_2⟩⟩,x4_1,x4_2⟩:=x4
  refine noS ?_
  refine kI (jE ?_)
  refine goL ?_
  refine gDm (jJ y1 (gJb hx4)) ?_
  refine goL ?_
  refine gDm (gF (gRf (jD.mk x4_0_0 (gD.mk x4_0_1_0 x4_0_1_1 x4_0_1_2)) (jD.mk a1_0 (gD.mk a1_1_0 a1_1_1 a1_1_2)))) ?_
  refine goC h ?_ ?_<;>intro c5 h
  ·refine goL ?_
   refine jN ?_
   subst h
   exact qK
  ·refine goS ?_
   refine jI (jS y1 (by omega)) ?_
   exact⟨(y1+1),h,by omega,eJ⟩
 ·have hky12:=wF c3
  rw [jF hky12,pM.eq_1] at h
  refine goX ?_
  refine jN ?_
  subst h
  exact qK
def qN:List Int→Int→Int→Int→Int→(List gV)→Option (gV)
 | [],y2,y3,y4,y5,y6=>(some (gV.mk y2 y3 (gT.mk y4 y5) y6))
 | x11::xs,y2,y3,y4,y5,y6=>qN xs 3 x11 0 0 [(gV.mk y2 y3 (gT.mk y4 y5) y6)]
def uG(a0:gV)(a1:List Int):Option (gV):=
bnd (gGh 5000 a0) fun x1=>
qN a1 x1.kind x1.n x1.at_.package x1.at_.at_ x1.args
theorem gEx(a0:gV)(a1:List Int){r:gV}(h:uG a0 a1=some r):kX Tryz.prog 157 [.d (mY a0),.L 1 (gKp a1)] [184] [mY r]:=by
 obtain⟨a0_0,a0_1,⟨a0_2_0,a0_2_1⟩,a0_3⟩:=a0
 unfold uG at h
 refine qI Tryz.func157 rfl (by kernel_rfl) rfl (by simp) fun A _=>?_
 refine goL ?_
 obtain⟨⟨x1_0,x1_1,⟨x1_2_0,x1_2_1⟩,x1_3⟩,hx1,h⟩:=gK h
 refine gJd (gYk 5000 (gV.mk a0_0 a0_1 (gT.mk a0_2_0 a0_2_1) a0_3) hx1) ?_
 refine goL ?_
 refine noB ?_
 refine gFj 1 (fun z9=>?_)
 refine hAy (fun(y8:Nat) (y2:Int) (y3:Int) (y4:Int) (y5:Int) (y6:List gV) (v7:Nat)=>⟨[(1,.L 1 (gKp a1)),(4,.ptr 1 0),(5,.ptr 3 0),(6,.N y8)],[.box [.I a0_0,.I a0_1,.I a0_2_0,.I a0_2_1,.L 5 (qE a0_3)],.box [.I 0,.I 0,.I 0,.I 0,.nilsl],.own 184 5 v7 (qE y6),.box [.I y2,.I y3,.I y4,.I y5,.sl 2 v7]],Tryz.f157.ntmps⟩) (fun y8 y2 y3 y4 y5 y6 v7=>qN (a1.drop y8) y2 y3 y4 y5 y6=some r) (fun y8 y2 y3 y4 y5 y6 v7=>a1.length - y8) 0 x1_0 x1_1 x1_2_0 x1_2_1 x1_3 0 eJ h ?_
 rintro y8 y2 y3 y4 y5 y6 v7 h
 refine goL ?_
 refine mO (fun c10=>?_) (fun c10=>?_)
 ·have hky82:=wE c10
  obtain⟨x11,hx11,hdx11⟩:=drop_at hky82
  rw [hdx11,qN.eq_2] at h
  refine noS ?_
  refine kI (jE ?_)
  refine uX (P:=Tryz.prog) Mix.h [(0,true),(1,true),(2,true),(3,true),(4,true),(5,false),(6,true),(7,false)] (by kernel_rfl) ?_
  refine goY ?_
  refine jC rfl (jJ y8 (hR5 hx11)) ?_
  refine goY ?_
  refine gQ0 (T:=182) (gV.mk y2 y3 (gT.mk y4 y5) y6) ?_
  refine goY ?_
  refine kS ?_
  refine goL ?_
  refine jI (jS y8 (by omega)) ?_
  exact⟨(y8+1),3,x11,0,0,[(gV.mk y2 y3 (gT.mk y4 y5) y6)],0,h,by omega,vG 0 [0,1,4,3]⟩
 ·have hky82:=wF c10
  rw [jF hky82,qN.eq_1] at h
  refine goX ?_
  refine jN ?_
  obtain rfl:=Option.some.inj h
  exact gPi
def gEd(rec_l19Steps:gH→(List UInt8)→(List UInt8)→Int→Option (List Int × Bool))(a0:gH)(a2:List UInt8)(a3:Int)(x2:qV × Int × Bool):Nat→Int→Option (List Int × Bool)
 | 0,y3=>none
 | n4+1,y3=>lt_ ((cnd (decide (y3 < (x2.1.supertraits.length:Int))) ((decide (a3 > 0))) (false))) fun b5=>
(cnd b5 (
bnd (at? x2.1.supertraits y3) fun x8=>
bnd (rec_l19Steps a0 x8 a2 (IntKind.i64.wrap (a3 - 1))) fun x9=>
(cnd x9.2 (
gd ([y3].length+x9.1.length≤4294967296) (
(some (([y3]++x9.1),true)))) (
gEd rec_l19Steps a0 a2 a3 x2 n4 (IntKind.i64.wrap (y3+1))))) (
(some ([],false))))
def gKl(rec_l19Steps:gH→(List UInt8)→(List UInt8)→Int→Option (List Int × Bool))(a0:gH)(a1:List UInt8)(a2:List UInt8)(a3:Int)(n0:Nat):Option (List Int × Bool):=
(cnd (a1==a2) (
(some ([],true))) (
lt_ (vV a0 a1) fun x2=>
gEd rec_l19Steps a0 a2 a3 x2 n0 0))
theorem gU8{rec_l19Steps:gH→(List UInt8)→(List UInt8)→Int→Option (List Int × Bool)}(hrec_l19Steps:∀(x0:gH) (x1:List UInt8) (x2:List UInt8) (x3:Int) {r:List Int × Bool},rec_l19Steps x0 x1 x2 x3=some r→jB Tryz.prog 177 [.d (kT x0),.S x1,.S x2,.I x3] [.sl 1 (gKp r.1),.b r.2])(a0:gH)(a1:List UInt8)(a2:List UInt8)(a3:Int){n0:Nat}{r:List Int × Bool}(h:gKl rec_l19Steps a0 a1 a2 a3 n0=some r):jB Tryz.prog 177 [.d (kT a0),.S a1,.S a2,.I a3] [.sl 1 (gKp r.1),.b r.2]:=by
 obtain⟨a0_0⟩:=a0
 unfold gKl at h
 refine SpI Tryz.func177 fun A _=>?_
 refine goC h ?_ ?_<;>intro c1 h
 ·refine goL ?_
  refine gFc ?_
  refine goL ?_
  refine wL 1 rfl rfl ?_
  refine jN ?_
  cases h
  exact qK
 ·refine goS ?_
  obtain⟨⟨⟨x2_0_0,x2_0_1,x2_0_2,x2_0_3,x2_0_4⟩,x2_1,x2_2⟩,hx2,h⟩:=qR h
  have sx2:=gH5 (gH.mk a0_0) a1
  rw [hx2] at sx2
  refine jI (gF (sx2)) ?_
  refine noB ?_
  refine gD3 (fun(n4:Nat) (y3:Int)=>⟨[(2,.S a2),(3,.I a3),(4,.ptr 0 0),(10,.ptr 1 0),(13,.I y3)],[.box [.L 6 (kN a0_0)],.box [.S x2_0_0,.L 1 (gZ x2_0_1),.B x2_0_2,.B x2_0_3,.L 16 (kU x2_0_4)]],Tryz.f177.ntmps⟩) (fun n4 y3=>gEd rec_l19Steps (gH.mk a0_0) a2 a3 ((qV.mk x2_0_0 x2_0_1 x2_0_2 x2_0_3 x2_0_4),x2_1,x2_2) n4 y3=some r) (fun n4 y3=>n4) n0 0 eJ h ?_
  rintro n4 y3 h
  rcases n4 with _ | n4
  ·cases h
  rw [gEd.eq_2] at h
  refine goL ?_
  obtain⟨b5,hb5,h⟩:=qR h
  refine jU ⟨[(2,.S a2),(3,.I a3),(4,.ptr 0 0),(10,.ptr 1 0),(13,.I y3),(35,.B b5)],[.box [.L 6 (kN a0_0)],.box [.S x2_0_0,.L 1 (gZ x2_0_1),.B x2_0_2,.B x2_0_3,.L 16 (kU x2_0_4)]],Tryz.f177.ntmps⟩ ?_ ?_
  ·refine gN 32 (fun c6=>?_) (fun c6=>?_)
   ·replace hb5:=gX c6 hb5
    refine goL ?_
    cases hb5
    exact eJ
   ·replace hb5:=gY c6 hb5
    refine goL ?_
    cases hb5
    exact eJ
  refine goC h ?_ ?_<;>intro c7 h
  ·refine noS ?_
   refine kI (jE ?_)
   refine goL ?_
   obtain⟨x8,hx8,h⟩:=gK h
   obtain⟨hx80,hx8⟩:=gD6 hx8
   refine gDm (qU hx80 (gOe hx8)) ?_
   refine goL ?_
   refine gDm (qC) ?_
   obtain⟨⟨x9_0,x9_1⟩,hx9,h⟩:=gK h
   refine gDm (gF (hrec_l19Steps (gH.mk a0_0) x8 a2 (IntKind.i64.wrap (a3 - 1)) hx9)) ?_
   refine goC h ?_ ?_<;>intro c10 h
   ·refine goL ?_
    refine gA7 y3 ?_
    refine goL ?_
    obtain⟨g11,h⟩:=mZ h
    refine gGg g11 ?_
    refine goL ?_
    refine wL 2 rfl rfl ?_
    refine jN ?_
    cases h
    exact qK
   ·refine goS ?_
    refine jI (qC) ?_
    exact⟨n4,(IntKind.i64.wrap (y3+1)),h,Nat.lt_succ_self _,eJ⟩
  ·refine goX ?_
   refine gFc ?_
   refine goL ?_
   refine wL 2 rfl rfl ?_
   refine jN ?_
   cases h
   exact qK
def gKm:Nat→gH→(List UInt8)→(List UInt8)→Int→Option (List Int × Bool)
 | 0,_,_,_,_=>none
 | n+1,x0,x1,x2,x3=>gKl (gKm n) x0 x1 x2 x3 n
theorem gU9:∀(n:Nat) (x0:gH) (x1:List UInt8) (x2:List UInt8) (x3:Int) {r:List Int × Bool},gKm n x0 x1 x2 x3=some r→jB Tryz.prog 177 [.d (kT x0),.S x1,.S x2,.I x3] [.sl 1 (gKp r.1),.b r.2]:=by
 intro n
 induction n with
 | zero=>intro x0 x1 x2 x3 r h;cases h
 | succ n ih=>intro x0 x1 x2 x3 r h;exact gU8 ih x0 x1 x2 x3 h
def kM(a0:gH)(a1:jD):List gT→(List gT)→Option (List gT)
 | [],y2=>(some y2)
 | x7::xs,y2=>bnd (at? a0.packages x7.package) fun x8=>
bnd (at? x8.instances x7.at_) fun x9=>
bnd ((cnd (x9.trait==a1.trait) (bnd (zV x9.head a1.type_) fun x12=>
(some x12)) ((some false)))) fun b10=>
(cnd b10 (
gd (y2.length+[x7].length≤4294967296) (
kM a0 a1 xs (y2++[x7]))) (
kM a0 a1 xs y2))
def uU(a0:gH)(a1:jD):Option (List gT):=
bnd (gAo a0) fun x1=>
kM a0 a1 x1 []
theorem gHq(a0:gH)(a1:jD){r:List gT}(h:uU a0 a1=some r):jB Tryz.prog 190 [.d (kT a0),.d (gAh a1)] [.sl 2 (mX r)]:=by
 obtain⟨a0_0⟩:=a0
 obtain⟨a1_0,⟨a1_1_0,a1_1_1,a1_1_2⟩⟩:=a1
 unfold uU at h
 refine SpI Tryz.func190 fun A _=>?_
 refine goL ?_
 refine zN ?_
 refine goL ?_
 obtain⟨x1,hx1,h⟩:=gK h
 refine jI (gF (gNe (gH.mk a0_0) hx1)) ?_
 refine noB ?_
 refine gFj 6 (fun z5=>?_)
 refine kR (fun(y4:Nat) (y2:List gT) (v3:Nat)=>⟨[(2,.ptr 0 0),(3,.ptr 1 0),(5,.sl 2 v3),(6,.L 2 (mX x1)),(7,.N y4)],[.box [.L 6 (kN a0_0)],.box [.S a1_0,.I a1_1_0,.S a1_1_1,.L 3 (gJ a1_1_2)],.arr 181 2 v3 (mX y2)],Tryz.f190.ntmps⟩) (fun y4 y2 v3=>kM (gH.mk a0_0) (jD.mk a1_0 (gD.mk a1_1_0 a1_1_1 a1_1_2)) (x1.drop y4) y2=some r) (fun y4 y2 v3=>x1.length - y4) 0 [] 0 eJ h ?_
 rintro y4 y2 v3 h
 refine goL ?_
 refine mO (fun c6=>?_) (fun c6=>?_)
 ·have hky42:=wE c6
  obtain⟨x7,hx7,hdx7⟩:=drop_at hky42
  rw [hdx7,kM.eq_2] at h
  obtain⟨x7_0,x7_1⟩:=x7
  refine noS ?_
  refine kI (jE ?_)
  refine jL (P:=Tryz.prog) Mix.h [(0,true),(1,true),(2,true),(3,true),(4,true),(5,true),(6,true),(7,true),(8,true),(9,true),(10,true),(11,true),(12,true),(13,true),(14,true),(15,true),(16,true),(17,false),(18,false)] (by kernel_rfl) ?_
  refine goY ?_
  refine jC rfl (jJ y4 (yV hx7)) ?_
  refine goY ?_
  obtain⟨x8,hx8,h⟩:=gK h
  obtain⟨hx80,hx8⟩:=gD6 hx8
  obtain⟨x8_0,x8_1,x8_2,x8_3,x8_4,x8_5⟩:=x8
  refine jC rfl (qU hx80 (gC7 hx8)) ?_
  refine goY ?_
  refine jC rfl (jJ y4 (yV hx7)) ?_
  refine goY ?_
  obtain⟨x9,hx9,h⟩:=gK h
  obtain⟨hx90,hx9⟩:=gD6 hx9
  obtain⟨x9_0,x9_1,⟨x9_2_0,x9_2_1,x9_2_2⟩,x9_3,x9_4,x9_5,⟨x9_6_0,x9_6_1,x9_6_2⟩,x9_7⟩:=x9
  refine jC rfl (qU hx90 (gGf hx9)) ?_
  refine goY ?_
  refine kS ?_
  refine goL ?_
  obtain⟨b10,hb10,h⟩:=gK h
  refine jU ⟨[(2,.ptr 0 0),(3,.ptr 1 0),(5,.sl 2 v3),(6,.L 2 (mX x1)),(7,.N y4),(46,.B b10)],[.box [.L 6 (kN a0_0)],.box [.S a1_0,.I a1_1_0,.S a1_1_1,.L 3 (gJ a1_1_2)],.arr 181 2 v3 (mX y2),.box [.S x9_0,.L 1 (gZ x9_1),.I x9_2_0,.S x9_2_1,.L 3 (gJ x9_2_2),.L 4 (jT x9_3),.B x9_4,.B x9_5,.I x9_6_0,.S x9_6_1,.L 3 (gJ x9_6_2),.L 11 (mW x9_7)]],Tryz.f190.ntmps⟩ ?_ ?_
  ·refine gN 40 (fun c11=>?_) (fun c11=>?_)
   ·replace hb10:=gX c11 hb10
    refine goL ?_
    refine uD ?_
    obtain⟨x12,hx12,hb10⟩:=gK hb10
    refine jI (gF (gN9 (gD.mk x9_2_0 x9_2_1 x9_2_2) (gD.mk a1_1_0 a1_1_1 a1_1_2) hx12)) ?_
    cases hb10
    exact eJ
   ·replace hb10:=gY c11 hb10
    refine goL ?_
    cases hb10
    exact eJ
  refine goC h ?_ ?_<;>intro c13 h
  ·refine goL ?_
   refine jI (jJ y4 (yV hx7)) ?_
   refine gBc (u:=(.st [.i .i64 x7_0,.i .i64 x7_1])) ?_
   obtain⟨g14,h⟩:=mZ h
   refine gBf g14 ?_
   refine goL ?_
   refine jI (jS y4 (by omega)) ?_
   exact⟨(y4+1),(y2++[(gT.mk x7_0 x7_1)]),(v3+1),h,by omega,eJ⟩
  ·refine goS ?_
   refine jI (jS y4 (by omega)) ?_
   exact⟨(y4+1),y2,v3,h,by omega,eJ⟩
 ·have hky42:=wF c6
  rw [jF hky42,kM.eq_1] at h
  refine goX ?_
  refine kK 2 rfl rfl ?_
  refine jN ?_
  cases h
  exact qK
def uV(a0:gD)(a1:gD):Option (Bool):=
bnd (uA a0 a1) fun x1=>
bnd ((cnd x1 (bnd (uA a1 a0) fun x4=>
(some (!x4))) ((some false)))) fun b2=>
(some b2)
theorem gMg(a0:gD)(a1:gD){r:Bool}(h:uV a0 a1=some r):jB Tryz.prog 191 [.d (jP a0),.d (jP a1)] [.b r]:=by
 obtain⟨a0_0,a0_1,a0_2⟩:=a0
 obtain⟨a1_0,a1_1,a1_2⟩:=a1
 unfold uV at h
 refine SpI Tryz.func191 fun A _=>?_
 refine goL ?_
 obtain⟨x1,hx1,h⟩:=gK h
 refine jI (gF (gD8 (gD.mk a0_0 a0_1 a0_2) (gD.mk a1_0 a1_1 a1_2) hx1)) ?_
 obtain⟨b2,hb2,h⟩:=gK h
 refine jU ⟨[(4,.B b2)],[.box [.I a0_0,.S a0_1,.L 3 (gJ a0_2)],.box [.I a1_0,.S a1_1,.L 3 (gJ a1_2)]],Tryz.f191.ntmps⟩ ?_ ?_
 ·refine gN 8 (fun c3=>?_) (fun c3=>?_)
  ·replace hb2:=gX c3 hb2
   refine goL ?_
   refine uD ?_
   obtain⟨x4,hx4,hb2⟩:=gK hb2
   refine jI (gF (gD8 (gD.mk a1_0 a1_1 a1_2) (gD.mk a0_0 a0_1 a0_2) hx4)) ?_
   cases hb2
   exact eJ
  ·replace hb2:=gY c3 hb2
   refine goL ?_
   cases hb2
   exact eJ
 exact goR h
def zU(rec_l19Supers:gH→(List UInt8)→(List (List UInt8))→Option (List (List UInt8)))(w:gH):List (List UInt8)→(List (List UInt8))→Option (List (List UInt8))
 | [],y2=>(some y2)
 | x7::xs,y2=>(cnd (!(vQ y2 x7)) (
gd (y2.length+[x7].length≤4294967296) (
bnd (rec_l19Supers w x7 (y2++[x7])) fun x10=>
zU rec_l19Supers w xs x10)) (
zU rec_l19Supers w xs y2))
def gI6(rec_l19Supers:gH→(List UInt8)→(List (List UInt8))→Option (List (List UInt8)))(w:gH)(name:List UInt8)(l0:List (List UInt8)):Option (List (List UInt8)):=
lt_ (vV w name) fun x1=>
zU rec_l19Supers w x1.1.supertraits l0
theorem gSb{rec_l19Supers:gH→(List UInt8)→(List (List UInt8))→Option (List (List UInt8))}(hrec_l19Supers:∀(x0:gH) (x1:List UInt8) (x2:List (List UInt8)) (w0:Nat) {r:List (List UInt8)},rec_l19Supers x0 x1 x2=some r→Go.Eng.Spec Tryz.prog 179 [.d (kT x0),.S x1,.sl 0 w0] [.own 9 1 w0 (gZ x2)] (fun sv Lo=>∃v'0,sv=.sl 0 v'0∧Lo=[.own 9 1 v'0 (gZ r)]))(w:gH)(name:List UInt8)(l0:List (List UInt8))(v0:Nat){r:List (List UInt8)}(h:gI6 rec_l19Supers w name l0=some r):Go.Eng.Spec Tryz.prog 179 [.d (kT w),.S name,.sl 0 v0] [.own 9 1 v0 (gZ l0)] (fun sv Lo=>∃v'0,sv=.sl 0 v'0∧Lo=[.own 9 1 v'0 (gZ r)]):=by
 obtain⟨w_0⟩:=w
 unfold gI6 at h
 refine mP 1 Tryz.func179 rfl (by kernel_rfl) rfl rfl fun A _=>?_
 refine goL ?_
 obtain⟨⟨⟨x1_0_0,x1_0_1,x1_0_2,x1_0_3,x1_0_4⟩,x1_1,x1_2⟩,hx1,h⟩:=qR h
 have sx1:=gH5 (gH.mk w_0) name
 rw [hx1] at sx1
 refine jI (gF (sx1)) ?_
 refine noB ?_
 refine vN 2 1 (fun z5=>?_)
 refine kR (fun(y4:Nat) (y2:List (List UInt8)) (v3:Nat)=>⟨[(2,.sl 0 v3),(3,.ptr 1 0),(7,.ptr 2 0),(10,.N y4)],[.own 9 1 v3 (gZ y2),.box [.L 6 (kN w_0)],.box [.S x1_0_0,.L 1 (gZ x1_0_1),.B x1_0_2,.B x1_0_3,.L 16 (kU x1_0_4)]],Tryz.f179.ntmps⟩) (fun y4 y2 v3=>zU rec_l19Supers (gH.mk w_0) (x1_0_1.drop y4) y2=some r) (fun y4 y2 v3=>x1_0_1.length - y4) 0 l0 v0 eJ h ?_
 rintro y4 y2 v3 h
 refine goL ?_
 refine mO (fun c6=>?_) (fun c6=>?_)
 ·have hky42:=wE c6
  obtain⟨x7,hx7,hdx7⟩:=drop_at hky42
  rw [hdx7,zU.eq_2] at h
  refine noS ?_
  refine kI (jE ?_)
  refine goL ?_
  refine jI (jJ y4 (gOe hx7)) ?_
  refine gFl (gSj (gDy y2 x7)) ?_
  refine mO (fun c8=>?_) (fun c8=>?_)
  ·replace h:=gX c8 h
   refine uX (P:=Tryz.prog) Mix.h [(0,true),(1,true),(2,true),(3,true),(4,true),(5,true),(6,true),(7,true),(8,true),(9,true),(10,true),(11,true),(12,false),(13,false),(14,false),(15,true)] (by kernel_rfl) ?_
   refine goY ?_
   refine jC rfl (jJ y4 (gOe hx7)) ?_
   refine goY ?_
   refine jC rfl (jJ y4 (gOe hx7)) ?_
   refine goY ?_
   refine gQ0 (T:=50) (x7:List UInt8) ?_
   obtain⟨g9,h⟩:=mZ h
   refine gPm (T:=50) g9 ?_
   obtain⟨x10,hx10,h⟩:=gK h
   refine gX3 [0] (hrec_l19Supers (gH.mk w_0) x7 (y2++[x7]) (v3+1) hx10) ?_
   rintro _ _ ⟨v11,rfl,rfl⟩
   refine gT2 (sv:=.sl 0 v11) (L':=[.own 9 1 v11 (gZ x10),.box [.L 6 (kN w_0)],.box [.S x1_0_0,.L 1 (gZ x1_0_1),.B x1_0_2,.B x1_0_3,.L 16 (kU x1_0_4)],.dead 1]) (by repeat(first | exact yG.nil | (apply yG.keep;focus ((repeat constructor);done)) | (apply yG.dep;focus kernel_rfl))) ?_
   refine goY ?_
   refine kS ?_
   refine goL ?_
   refine jI (jS y4 (by omega)) ?_
   exact⟨(y4+1),x10,v11,h,by omega,eJ⟩
  ·replace h:=gY c8 h
   refine goS ?_
   refine jI (jS y4 (by omega)) ?_
   exact⟨(y4+1),y2,v3,h,by omega,eJ⟩
 ·have hky42:=wF c6
  rw [jF hky42,zU.eq_1] at h
  refine goX ?_
  refine jN ?_
  obtain rfl:=Option.some.inj h
  exact gFk [.sl 0 v3] [.own 9 1 v3 (gZ y2)] ⟨v3,rfl,rfl⟩
def gI7:Nat→gH→(List UInt8)→(List (List UInt8))→Option (List (List UInt8))
 | 0,_,_,_=>none
 | n+1,x0,x1,x2=>gI6 (gI7 n) x0 x1 x2
theorem gSc:∀(n:Nat) (x0:gH) (x1:List UInt8) (x2:List (List UInt8)) (w0:Nat) {r:List (List UInt8)},gI7 n x0 x1 x2=some r→Go.Eng.Spec Tryz.prog 179 [.d (kT x0),.S x1,.sl 0 w0] [.own 9 1 w0 (gZ x2)] (fun sv Lo=>∃v'0,sv=.sl 0 v'0∧Lo=[.own 9 1 v'0 (gZ r)]):=by
 intro n
 induction n with
 | zero=>intro x0 x1 x2 w0 r h;cases h
 | succ n ih=>intro x0 x1 x2 w0 r h;exact gSb ih x0 x1 x2 w0 h
def gBl(a0:gH)(a1:gT):Option (jZ × Bool):=
bnd ((cnd (!(gFe a1.package 0 (IntKind.i64.wrap ((a0.packages.length:Int) - 1)))) ((some true)) (bnd (at? a0.packages a1.package) fun x3=>
(some (!(gFe a1.at_ 0 (IntKind.i64.wrap ((x3.instances.length:Int) - 1)))))))) fun b1=>
(cnd b1 (
(some ((jZ.mk [] [] (gD.mk 0 [] []) [] false false (gD.mk 0 [] []) []),false))) (
bnd (at? a0.packages a1.package) fun x5=>
bnd (at? x5.instances a1.at_) fun x6=>
(some (x6,true))))
theorem gSd(a0:gH)(a1:gT){r:jZ × Bool}(h:gBl a0 a1=some r):jB Tryz.prog 133 [.d (kT a0),.d (wW a1)] [gCl r.1,.b r.2]:=by
 obtain⟨a0_0⟩:=a0
 obtain⟨a1_0,a1_1⟩:=a1
 unfold gBl at h
 refine SpI Tryz.func133 fun A _=>?_
 refine gHk ?_
 obtain⟨b1,hb1,h⟩:=gK h
 refine qZ (P:=Tryz.prog) Mix.h ⟨[(2,.ptr 0 0),(3,.ptr 1 0),(4,.ptr 2 0),(28,.B b1)],[.box [.L 6 (kN a0_0)],.box [.I a1_0,.I a1_1],.box [.S [],.nilsl,.I 0,.S [],.nilsl,.nilsl,.B false,.B false,.I 0,.S [],.nilsl,.nilsl]],Tryz.f133.ntmps⟩ (by kernel_rfl) ?_ ?_
 ·refine goL ?_
  refine gDm (qC) ?_
  refine gDm (gF (gLb a1_0 0 (IntKind.i64.wrap ((a0_0.length:Int) - 1)))) ?_
  refine goL ?_
  refine vR 14 (fun c2=>?_) (fun c2=>?_)
  ·replace hb1:=gX c2 hb1
   refine goL ?_
   cases hb1
   exact eJ
  ·replace hb1:=gY c2 hb1
   refine goL ?_
   obtain⟨x3,hx3,hb1⟩:=gK hb1
   obtain⟨hx30,hx3⟩:=gD6 hx3
   obtain⟨x3_0,x3_1,x3_2,x3_3,x3_4,x3_5⟩:=x3
   refine gBe (qU hx30 (gC7 hx3)) ?_
   refine goL ?_
   refine gBe (qC) ?_
   refine gBe (gF (gLb a1_1 0 (IntKind.i64.wrap ((x3_4.length:Int) - 1)))) ?_
   refine goL ?_
   cases hb1
   exact eJ
 refine goC h ?_ ?_<;>intro c4 h
 ·refine goL ?_
  refine gA6 (kD TBd.h TZ.h rfl (by repeat constructor)) ?_
  exact goR h
 ·refine noS ?_
  refine jL (P:=Tryz.prog) Mix.h [(0,true),(1,true),(2,true),(3,true),(4,true),(5,true),(6,true),(7,true),(8,true),(9,true),(10,true),(11,false),(12,true)] (by kernel_rfl) ?_
  refine goY ?_
  obtain⟨x5,hx5,h⟩:=gK h
  obtain⟨hx50,hx5⟩:=gD6 hx5
  obtain⟨x5_0,x5_1,x5_2,x5_3,x5_4,x5_5⟩:=x5
  refine jC rfl (qU hx50 (gC7 hx5)) ?_
  refine goY ?_
  obtain⟨x6,hx6,h⟩:=gK h
  obtain⟨hx60,hx6⟩:=gD6 hx6
  obtain⟨x6_0,x6_1,⟨x6_2_0,x6_2_1,x6_2_2⟩,x6_3,x6_4,x6_5,⟨x6_6_0,x6_6_1,x6_6_2⟩,x6_7⟩:=x6
  refine jC rfl (qU hx60 (gGf hx6)) ?_
  refine goY ?_
  refine kS ?_
  exact goR h
def gKn  :Option (gD):=
bnd (gF6 [105,110,116] []) fun x1=>
(some x1)
theorem gWl  {r:gD}(h:gKn  =some r):jB Tryz.prog 43 [] [jP r]:=by
 unfold gKn at h
 refine SpI Tryz.func43 fun A _=>?_
 refine goL ?_
 obtain⟨⟨x1_0,x1_1,x1_2⟩,hx1,h⟩:=gK h
 refine qP (gF (gKx [105,110,116] [] hx1)) ?_
 exact goR h
end Go.Proofs.YtfaplndgbgoaaaaGreatDoor
