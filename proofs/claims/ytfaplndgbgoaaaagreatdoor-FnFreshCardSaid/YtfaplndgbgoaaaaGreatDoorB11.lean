import Derived.Test.YtfaplndgbgoaaaaGreatDoorEng38
import Derived.Test.YtfaplndgbgoaaaaGreatDoorEng67
import Derived.Test.YtfaplndgbgoaaaaGreatDoorSfi0
import Derived.Test.YtfaplndgbgoaaaaGreatDoorB2
import Derived.Test.YtfaplndgbgoaaaaGreatDoorB4
import Derived.Test.YtfaplndgbgoaaaaGreatDoorB5
import Derived.Test.YtfaplndgbgoaaaaGreatDoorVr
import Derived.Test.YtfaplndgbgoaaaaGreatDoorB9
import Derived.Test.YtfaplndgbgoaaaaGreatDoorCur
import Derived.Test.YtfaplndgbgoaaaaGreatDoorUn1
set_option maxHeartbeats 4000000
set_option linter.unusedVariables false
set_option linter.unusedSimpArgs false
set_option linter.unusedSectionVars false
namespace Go.Proofs.YtfaplndgbgoaaaaGreatDoor
open Go Go.Eng
attribute [local irreducible] V VO VQ VY Quiet QR jB kX Rng uJ uY qW
def gAb(rec_l25Solve:gH→(List jK)→jD→Int→Option (gV × Int))(a0:gH)(a1:List jK)(a3:Int)(x1:gT × Int)(x5:List gI × Bool):List jD→(List gV)→Option (gV × Int)
 | [],y6=>(some ((gV.mk 1 0 x1.1 y6),0))
 | x11::xs,y6=>gd (bok x5.1∧tok x11.type_) (lt_ (apT x5.1 x11.type_) fun x13=>
bnd (rec_l25Solve a0 a1 (jD.mk x11.trait x13) (IntKind.i64.wrap (a3 - 1))) fun x14=>
(cnd (x14.2 != 0) (
(some ((gV.mk 0 0 (gT.mk 0 0) []),x14.2))) (
gd (y6.length+[x14.1].length≤4294967296) (
gAb rec_l25Solve a0 a1 a3 x1 x5 xs (y6++[x14.1])))))
def gJk(rec_l25Inst:gH→(List jK)→jD→Int→Option (gV × Int))(rec_l25Solve:gH→(List jK)→jD→Int→Option (gV × Int))(a0:gH)(a1:List jK)(a2:jD)(a3:Int):Option (gV × Int):=
bnd (yU a0 a2) fun x1=>
(cnd (x1.2 != 0) (
(some ((gV.mk 0 0 (gT.mk 0 0) []),x1.2))) (
bnd (at? a0.packages x1.1.package) fun x3=>
bnd (at? x3.instances x1.1.at_) fun x4=>
bnd (gDl x4.head a2.type_) fun x5=>
gAb rec_l25Solve a0 a1 a3 x1 x5 x4.where_ []))
theorem gV6{rec_l25Inst:gH→(List jK)→jD→Int→Option (gV × Int)}{rec_l25Solve:gH→(List jK)→jD→Int→Option (gV × Int)}(hrec_l25Inst:∀(x0:gH) (x1:List jK) (x2:jD) (x3:Int) {r:gV × Int},rec_l25Inst x0 x1 x2 x3=some r→jB Tryz.prog 161 [.d (kT x0),.L 6 (kZ x1),.d (gAh x2),.I x3] [mY r.1,.i .i64 r.2])(hrec_l25Solve:∀(x0:gH) (x1:List jK) (x2:jD) (x3:Int) {r:gV × Int},rec_l25Solve x0 x1 x2 x3=some r→jB Tryz.prog 131 [.d (kT x0),.L 6 (kZ x1),.d (gAh x2),.I x3] [mY r.1,.i .i64 r.2])(a0:gH)(a1:List jK)(a2:jD)(a3:Int){r:gV × Int}(h:gJk rec_l25Inst rec_l25Solve a0 a1 a2 a3=some r):jB Tryz.prog 161 [.d (kT a0),.L 6 (kZ a1),.d (gAh a2),.I a3] [mY r.1,.i .i64 r.2]:=by
 obtain⟨a0_0⟩:=a0
 obtain⟨a2_0,⟨a2_1_0,a2_1_1,a2_1_2⟩⟩:=a2
 unfold gJk at h
 refine SpI Tryz.func161 fun A _=>?_
 refine goL ?_
 obtain⟨⟨⟨x1_0_0,x1_0_1⟩,x1_1⟩,hx1,h⟩:=gK h
 refine jI (gF (gKz (gH.mk a0_0) (jD.mk a2_0 (gD.mk a2_1_0 a2_1_1 a2_1_2)) hx1)) ?_
 refine mO (fun c2=>?_) (fun c2=>?_)
 ·replace h:=gX c2 h
  refine goL ?_
  refine gA6 (kD TBd.h TZ.h rfl (by repeat constructor)) ?_
  exact goR h
 ·replace h:=gY c2 h
  refine noS ?_
  refine jL (P:=Tryz.prog) Mix.h [(0,true),(1,true),(2,true),(3,true),(4,true),(5,true),(6,true),(7,true),(8,true),(9,true),(10,true),(11,false),(12,false)] (by kernel_rfl) ?_
  refine goY ?_
  obtain⟨x3,hx3,h⟩:=gK h
  obtain⟨hx30,hx3⟩:=gD6 hx3
  obtain⟨x3_0,x3_1,x3_2,x3_3,x3_4,x3_5⟩:=x3
  refine jC rfl (qU hx30 (gC7 hx3)) ?_
  refine goY ?_
  obtain⟨x4,hx4,h⟩:=gK h
  obtain⟨hx40,hx4⟩:=gD6 hx4
  obtain⟨x4_0,x4_1,⟨x4_2_0,x4_2_1,x4_2_2⟩,x4_3,x4_4,x4_5,⟨x4_6_0,x4_6_1,x4_6_2⟩,x4_7⟩:=x4
  refine jC rfl (qU hx40 (gGf hx4)) ?_
  refine goY ?_
  refine kS ?_
  refine goL ?_
  obtain⟨⟨x5_0,x5_1⟩,hx5,h⟩:=gK h
  refine jI (gF (gMm (gD.mk x4_2_0 x4_2_1 x4_2_2) (gD.mk a2_1_0 a2_1_1 a2_1_2) hx5)) ?_
  refine gFl (kD TBd.h TZ.h rfl (by repeat constructor)) ?_
  refine noB ?_
  refine yJ 184 5 5 4 rfl rfl (by repeat constructor) (by repeat constructor) (by repeat constructor) (by repeat constructor) ?_
  show V _ _ _ _ _
  refine vN 4 5 (fun z9=>?_)
  refine kR (fun(y8:Nat) (y6:List gV) (v7:Nat)=>⟨[(1,.L 6 (kZ a1)),(3,.I a3),(4,.ptr 0 0),(8,.ptr 2 0),(12,.ptr 4 0),(13,.L 4 (gQ x5_0)),(15,.ptr 5 0),(16,.N y8)],[.box [.L 6 (kN a0_0)],.box [.S a2_0,.I a2_1_0,.S a2_1_1,.L 3 (gJ a2_1_2)],.box [.I 0,.I 0,.I 0,.I 0,.nilsl],.box [.I x1_0_0,.I x1_0_1],.box [.S x4_0,.L 1 (gZ x4_1),.I x4_2_0,.S x4_2_1,.L 3 (gJ x4_2_2),.L 4 (jT x4_3),.B x4_4,.B x4_5,.I x4_6_0,.S x4_6_1,.L 3 (gJ x4_6_2),.L 11 (mW x4_7)],.box [.I 1,.I 0,.I x1_0_0,.I x1_0_1,.sl 6 v7],.arr 184 5 v7 (qE y6)],Tryz.f161.ntmps⟩) (fun y8 y6 v7=>gAb rec_l25Solve (gH.mk a0_0) a1 a3 ((gT.mk x1_0_0 x1_0_1),x1_1) (x5_0,x5_1) (x4_3.drop y8) y6=some r) (fun y8 y6 v7=>x4_3.length - y8) 0 [] 0 eJ h ?_
  rintro y8 y6 v7 h
  refine goL ?_
  refine mO (fun c10=>?_) (fun c10=>?_)
  ·have hky82:=wE c10
   obtain⟨x11,hx11,hdx11⟩:=drop_at hky82
   rw [hdx11,gAb.eq_2] at h
   obtain⟨x11_0,⟨x11_1_0,x11_1_1,x11_1_2⟩⟩:=x11
   refine noS ?_
   refine kI (jE ?_)
   refine jL (P:=Tryz.prog) Mix.h [(0,true),(1,true),(2,true),(3,true),(4,true),(5,true),(6,true),(7,true),(8,true),(9,true),(10,true),(11,true),(12,true),(13,true),(14,true),(15,true),(16,true),(17,true),(18,true),(19,true),(20,true),(21,true),(22,true),(23,false),(24,false),(25,true)] (by kernel_rfl) ?_
   refine goY ?_
   refine jC rfl (jJ y8 (gHf hx11)) ?_
   refine goY ?_
   refine jC rfl (jJ y8 (gHf hx11)) ?_
   refine goY ?_
   obtain⟨g12,h⟩:=mZ h
   obtain⟨⟨x13_0,x13_1,x13_2⟩,hx13,h⟩:=qR h
   have sx13:=(gP1 x5_0 (gD.mk x11_1_0 x11_1_1 x11_1_2) g12).p
   rw [hx13] at sx13
   refine jC rfl (gF (sx13)) ?_
   refine goY ?_
   refine jC rfl (qC) ?_
   obtain⟨⟨⟨x14_0_0,x14_0_1,⟨x14_0_2_0,x14_0_2_1⟩,x14_0_3⟩,x14_1⟩,hx14,h⟩:=gK h
   refine jC rfl (gF (hrec_l25Solve (gH.mk a0_0) a1 (jD.mk x11_0 (gD.mk x13_0 x13_1 x13_2)) (IntKind.i64.wrap (a3 - 1)) hx14)) ?_
   refine goY ?_
   refine kS ?_
   refine goC h ?_ ?_<;>intro c15 h
   ·refine goL ?_
    refine gA6 (kD TBd.h TZ.h rfl (by repeat constructor)) ?_
    exact goR h
   ·refine goS ?_
    refine gBc (u:=(.st [.i .i64 x14_0_0,.i .i64 x14_0_1,.st [.i .i64 x14_0_2_0,.i .i64 x14_0_2_1],.sl 5 (qE x14_0_3)])) ?_
    obtain⟨g16,h⟩:=mZ h
    refine gBf g16 ?_
    refine goL ?_
    refine jI (jS y8 (by omega)) ?_
    exact⟨(y8+1),(y6++[(gV.mk x14_0_0 x14_0_1 (gT.mk x14_0_2_0 x14_0_2_1) x14_0_3)]),(v7+1),h,by omega,eJ⟩
  ·have hky82:=wF c10
   rw [jF hky82,gAb.eq_1] at h
   refine goX ?_
   refine kK 6 rfl rfl ?_
   refine jN ?_
   cases h
   exact qK
def gF7(rec_l25Inst:gH→(List jK)→jD→Int→Option (gV × Int))(rec_l25Solve:gH→(List jK)→jD→Int→Option (gV × Int))(a0:gH)(a1:List jK)(a2:jD)(a3:Int):Option (gV × Int):=
(cnd (decide ((qB a1 a2)≥0)) (
bnd (at? a1 (qB a1 a2)) fun x2=>
bnd (uG (gV.mk 2 x2.from_ (gT.mk 0 0) []) x2.steps) fun x3=>
(some (x3,0))) (
(cnd (decide (a3≤0)) (
(some ((gV.mk 0 0 (gT.mk 0 0) []),3))) (
lt_ (vV a0 a2.trait) fun x5=>
(cnd x5.1.auto (
none) (
lt_ ((cnd (a2.type_.kind==1) (true) ((a2.type_.kind==3)))) fun b7=>
(cnd b7 (
(some ((gV.mk 0 0 (gT.mk 0 0) []),1))) (
(cnd (a2.type_.kind==4) (
bnd (wD a0 a2.type_.name a2.trait) fun x11=>
(cnd x11.2 (
bnd (uG (gV.mk 4 0 (gT.mk 0 0) []) x11.1) fun x13=>
(some (x13,0))) (
bnd (rec_l25Inst a0 a1 a2 a3) fun x14=>
(some (x14.1,x14.2))))) (
bnd (rec_l25Inst a0 a1 a2 a3) fun x15=>
(some (x15.1,x15.2))))))))))))
theorem gU0{rec_l25Inst:gH→(List jK)→jD→Int→Option (gV × Int)}{rec_l25Solve:gH→(List jK)→jD→Int→Option (gV × Int)}(hrec_l25Inst:∀(x0:gH) (x1:List jK) (x2:jD) (x3:Int) {r:gV × Int},rec_l25Inst x0 x1 x2 x3=some r→jB Tryz.prog 161 [.d (kT x0),.L 6 (kZ x1),.d (gAh x2),.I x3] [mY r.1,.i .i64 r.2])(hrec_l25Solve:∀(x0:gH) (x1:List jK) (x2:jD) (x3:Int) {r:gV × Int},rec_l25Solve x0 x1 x2 x3=some r→jB Tryz.prog 131 [.d (kT x0),.L 6 (kZ x1),.d (gAh x2),.I x3] [mY r.1,.i .i64 r.2])(a0:gH)(a1:List jK)(a2:jD)(a3:Int){r:gV × Int}(h:gF7 rec_l25Inst rec_l25Solve a0 a1 a2 a3=some r):jB Tryz.prog 131 [.d (kT a0),.L 6 (kZ a1),.d (gAh a2),.I a3] [mY r.1,.i .i64 r.2]:=by
 obtain⟨a0_0⟩:=a0
 obtain⟨a2_0,⟨a2_1_0,a2_1_1,a2_1_2⟩⟩:=a2
 unfold gF7 at h
 refine SpI Tryz.func131 fun A _=>?_
 refine goL ?_
 refine jI (gF (gKk a1 (jD.mk a2_0 (gD.mk a2_1_0 a2_1_1 a2_1_2)))) ?_
 refine mO (fun c1=>?_) (fun c1=>?_)
 ·replace h:=gX c1 h
  refine jL (P:=Tryz.prog) Mix.h [(0,true),(1,true),(2,true),(3,true),(4,true),(5,true),(6,true),(7,true),(8,true),(9,true),(10,true),(11,true),(12,false),(13,true)] (by kernel_rfl) ?_
  refine goY ?_
  obtain⟨x2,hx2,h⟩:=gK h
  obtain⟨hx20,hx2⟩:=gD6 hx2
  obtain⟨⟨x2_0_0,⟨x2_0_1_0,x2_0_1_1,x2_0_1_2⟩⟩,x2_1,x2_2⟩:=x2
  refine jC rfl (qU hx20 (gJb hx2)) ?_
  refine goY ?_
  refine jC rfl (qU hx20 (gJb hx2)) ?_
  refine goY ?_
  obtain⟨⟨x3_0,x3_1,⟨x3_2_0,x3_2_1⟩,x3_3⟩,hx3,h⟩:=gK h
  refine jC rfl (gF ((gEx (gV.mk 2 x2_1 (gT.mk 0 0) []) x2_2 hx3).p)) ?_
  refine goY ?_
  refine kS ?_
  exact goR h
 ·replace h:=gY c1 h
  refine goS ?_
  refine mO (fun c4=>?_) (fun c4=>?_)
  ·replace h:=gX c4 h
   refine goL ?_
   refine gA6 (kD TBd.h TZ.h rfl (by repeat constructor)) ?_
   exact goR h
  ·replace h:=gY c4 h
   refine goS ?_
   obtain⟨⟨⟨x5_0_0,x5_0_1,x5_0_2,x5_0_3,x5_0_4⟩,x5_1,x5_2⟩,hx5,h⟩:=qR h
   have sx5:=gH5 (gH.mk a0_0) a2_0
   rw [hx5] at sx5
   refine jI (gF (sx5)) ?_
   refine mO (fun c6=>?_) (fun c6=>?_)
   ·replace h:=gX c6 h
    refine goL ?_
    refine zN ?_
    cases h
   ·replace h:=gY c6 h
    refine goS ?_
    obtain⟨b7,hb7,h⟩:=qR h
    refine jU ⟨[(1,.L 6 (kZ a1)),(3,.I a3),(4,.ptr 0 0),(6,.ptr 1 0),(8,.ptr 2 0),(66,.B b7)],[.box [.L 6 (kN a0_0)],.box [.S a2_0,.I a2_1_0,.S a2_1_1,.L 3 (gJ a2_1_2)],.box [.I 0,.I 0,.I 0,.I 0,.nilsl],.box [.S x5_0_0,.L 1 (gZ x5_0_1),.B x5_0_2,.B x5_0_3,.L 16 (kU x5_0_4)]],Tryz.f131.ntmps⟩ ?_ ?_
    ·refine gN 61 (fun c8=>?_) (fun c8=>?_)
     ·replace hb7:=gX c8 hb7
      refine goL ?_
      cases hb7
      exact eJ
     ·replace hb7:=gY c8 hb7
      refine goL ?_
      cases hb7
      exact eJ
    refine goC h ?_ ?_<;>intro c9 h
    ·refine goL ?_
     refine gA6 (kD TBd.h TZ.h rfl (by repeat constructor)) ?_
     exact goR h
    ·refine goS ?_
     refine mO (fun c10=>?_) (fun c10=>?_)
     ·replace h:=gX c10 h
      refine goL ?_
      obtain⟨⟨x11_0,x11_1⟩,hx11,h⟩:=gK h
      refine jI (gF (gGk (gH.mk a0_0) a2_1_1 a2_0 hx11)) ?_
      refine mO (fun c12=>?_) (fun c12=>?_)
      ·replace h:=gX c12 h
       refine goL ?_
       refine gFl (kD TBd.h TZ.h rfl (by repeat constructor)) ?_
       obtain⟨⟨x13_0,x13_1,⟨x13_2_0,x13_2_1⟩,x13_3⟩,hx13,h⟩:=gK h
       refine qP (gF ((gEx (gV.mk 4 0 (gT.mk 0 0) []) x11_0 hx13).p)) ?_
       exact goR h
      ·replace h:=gY c12 h
       refine goS ?_
       obtain⟨⟨⟨x14_0_0,x14_0_1,⟨x14_0_2_0,x14_0_2_1⟩,x14_0_3⟩,x14_1⟩,hx14,h⟩:=gK h
       refine qP (gF (hrec_l25Inst (gH.mk a0_0) a1 (jD.mk a2_0 (gD.mk a2_1_0 a2_1_1 a2_1_2)) a3 hx14)) ?_
       exact goR h
     ·replace h:=gY c10 h
      refine goS ?_
      obtain⟨⟨⟨x15_0_0,x15_0_1,⟨x15_0_2_0,x15_0_2_1⟩,x15_0_3⟩,x15_1⟩,hx15,h⟩:=gK h
      refine qP (gF (hrec_l25Inst (gH.mk a0_0) a1 (jD.mk a2_0 (gD.mk a2_1_0 a2_1_1 a2_1_2)) a3 hx15)) ?_
      exact goR h
mutual
def gHl:Nat→gH→(List jK)→jD→Int→Option (gV × Int)
 | 0,_,_,_,_=>none
 | n+1,x0,x1,x2,x3=>gJk (gHl n) (zP n) x0 x1 x2 x3
def zP:Nat→gH→(List jK)→jD→Int→Option (gV × Int)
 | 0,_,_,_,_=>none
 | n+1,x0,x1,x2,x3=>gF7 (gHl n) (zP n) x0 x1 x2 x3
end
theorem gU1:∀(n:Nat),(∀(x0:gH) (x1:List jK) (x2:jD) (x3:Int) {r:gV × Int},gHl n x0 x1 x2 x3=some r→jB Tryz.prog 161 [.d (kT x0),.L 6 (kZ x1),.d (gAh x2),.I x3] [mY r.1,.i .i64 r.2])∧(∀(x0:gH) (x1:List jK) (x2:jD) (x3:Int) {r:gV × Int},zP n x0 x1 x2 x3=some r→jB Tryz.prog 131 [.d (kT x0),.L 6 (kZ x1),.d (gAh x2),.I x3] [mY r.1,.i .i64 r.2]):=by
 intro n
 induction n with
 | zero=>exact⟨(by intro x0 x1 x2 x3 r h;cases h),(by intro x0 x1 x2 x3 r h;cases h)⟩
 | succ n ih=>
   obtain⟨ih0,ih1⟩:=ih
   refine⟨(fun x0 x1 x2 x3 r h=>gV6 ih0 ih1 x0 x1 x2 x3 h),(fun x0 x1 x2 x3 r h=>gU0 ih0 ih1 x0 x1 x2 x3 h)⟩
theorem gU2:∀(n:Nat) (x0:gH) (x1:List jK) (x2:jD) (x3:Int) {r:gV × Int},zP n x0 x1 x2 x3=some r→jB Tryz.prog 131 [.d (kT x0),.L 6 (kZ x1),.d (gAh x2),.I x3] [mY r.1,.i .i64 r.2]:=fun n=>(gU1 n).2
def vX(a0:gH)(y3:Nat)(x6:jD)(k2_0:(List jK)→Option (List jK)):List (List UInt8)→(List jK)→Option (List jK)
 | [],y11=>(k2_0 y11)
 | x16::xs,y11=>bnd (wD a0 x6.trait x16) fun x17=>
gd (tok x6.type_) (lt_ (idT x6.type_) fun x19=>
gd (y11.length+[(jK.mk (jD.mk x16 x19) (y3:Int) x17.1)].length≤4294967296) (
vX a0 y3 x6 k2_0 xs (y11++[(jK.mk (jD.mk x16 x19) (y3:Int) x17.1)])))
def qA(a0:gH):List jD→Nat→(List jK)→Option (List jK)
 | [],y3,y1=>(some y1)
 | x6::xs,y3,y1=>gd (tok x6.type_) (lt_ (idT x6.type_) fun x8=>
gd (y1.length+[(jK.mk (jD.mk x6.trait x8) (y3:Int) [])].length≤4294967296) (
bnd (qF a0 x6.trait) fun x10=>
vX a0 y3 x6 (fun y11=>qA a0 xs (y3+1) y11) x10 (y1++[(jK.mk (jD.mk x6.trait x8) (y3:Int) [])])))
def gC3(a0:gH)(a1:List jD):Option (List jK):=
qA a0 a1 0 []
theorem gNs(a0:gH)(a1:List jD){r:List jK}(h:gC3 a0 a1=some r):jB Tryz.prog 132 [.d (kT a0),.L 4 (jT a1)] [.sl 6 (kZ r)]:=by
 obtain⟨a0_0⟩:=a0
 unfold gC3 at h
 refine SpI Tryz.func132 fun A _=>?_
 refine goL ?_
 refine zN ?_
 refine goL ?_
 refine noB ?_
 refine gFj 1 (fun z4=>?_)
 refine kR (fun(y3:Nat) (y1:List jK) (v2:Nat)=>⟨[(1,.L 4 (jT a1)),(2,.ptr 0 0),(5,.sl 1 v2),(6,.N y3)],[.box [.L 6 (kN a0_0)],.arr 246 6 v2 (kZ y1)],Tryz.f132.ntmps⟩) (fun y3 y1 v2=>qA (gH.mk a0_0) (a1.drop y3) y3 y1=some r) (fun y3 y1 v2=>a1.length - y3) 0 [] 0 eJ h ?_
 rintro y3 y1 v2 h
 refine goL ?_
 refine mO (fun c5=>?_) (fun c5=>?_)
 ·have hky32:=wE c5
  obtain⟨x6,hx6,hdx6⟩:=drop_at hky32
  rw [hdx6,qA.eq_2] at h
  obtain⟨x6_0,⟨x6_1_0,x6_1_1,x6_1_2⟩⟩:=x6
  refine noS ?_
  refine kI (jE ?_)
  refine jL (P:=Tryz.prog) Mix.h [(0,true),(1,true),(2,true),(3,true),(4,true),(5,true),(6,true),(7,true),(8,true),(9,true),(10,true),(11,true),(12,true),(13,true),(14,true),(15,false),(16,false),(17,true)] (by kernel_rfl) ?_
  refine goY ?_
  refine jC rfl (jJ y3 (gHf hx6)) ?_
  refine goY ?_
  refine jC rfl (jJ y3 (gHf hx6)) ?_
  refine goY ?_
  obtain⟨g7,h⟩:=mZ h
  obtain⟨⟨x8_0,x8_1,x8_2⟩,hx8,h⟩:=qR h
  have sx8:=(yD (gD.mk x6_1_0 x6_1_1 x6_1_2) g7).p
  rw [hx8] at sx8
  refine jC rfl (gF (sx8)) ?_
  refine goY ?_
  refine pY (T:=216) (us:=kZ [(jK.mk (jD.mk x6_0 (gD.mk x8_0 x8_1 x8_2)) (y3:Int) [])]) ?_
  obtain⟨g9,h⟩:=mZ h
  refine pV (T:=216) g9 ?_
  refine goY ?_
  refine kS ?_
  refine goL ?_
  refine gDm (jJ y3 (gHf hx6)) ?_
  refine goL ?_
  obtain⟨x10,hx10,h⟩:=gK h
  refine gDm (gF (gK0 (gH.mk a0_0) x6_0 hx10)) ?_
  refine goL ?_
  refine noB ?_
  refine gFj 7 (fun z14=>?_)
  refine kR (fun(y13:Nat) (y11:List jK) (v12:Nat)=>⟨[(1,.L 4 (jT a1)),(2,.ptr 0 0),(5,.sl 1 v12),(6,.N y3),(7,.L 1 (gZ x10)),(8,.N y13)],[.box [.L 6 (kN a0_0)],.arr 246 6 v12 (kZ y11),.arr 246 6 0 (kZ [(jK.mk (jD.mk x6_0 (gD.mk x8_0 x8_1 x8_2)) (y3:Int) [])])],Tryz.f132.ntmps⟩) (fun y13 y11 v12=>vX (gH.mk a0_0) y3 (jD.mk x6_0 (gD.mk x6_1_0 x6_1_1 x6_1_2)) (fun y11=>qA (gH.mk a0_0) (a1.drop (y3+1)) (y3+1) y11) (x10.drop y13) y11=some r) (fun y13 y11 v12=>x10.length - y13) 0 (y1++[(jK.mk (jD.mk x6_0 (gD.mk x8_0 x8_1 x8_2)) (y3:Int) [])]) (v2+1) eJ h ?_
  rintro y13 y11 v12 h
  refine goL ?_
  refine mO (fun c15=>?_) (fun c15=>?_)
  ·have hky132:=wE c15
   obtain⟨x16,hx16,hdx16⟩:=drop_at hky132
   rw [hdx16,vX.eq_2] at h
   refine noS ?_
   refine kI (jE ?_)
   refine goL ?_
   refine gDm (jJ y3 (gHf hx6)) ?_
   refine goL ?_
   refine gDm (jJ y13 (gOe hx16)) ?_
   refine goL ?_
   obtain⟨⟨x17_0,x17_1⟩,hx17,h⟩:=gK h
   refine gDm (gF (gGk (gH.mk a0_0) x6_0 x16 hx17)) ?_
   refine gHk ?_
   refine uX (P:=Tryz.prog) Mix.h [(0,true),(1,true),(2,true),(3,true),(4,true),(5,true),(6,true),(7,true),(8,true),(9,true),(10,true),(11,true),(12,true),(13,true),(14,true),(15,false),(16,false),(17,true)] (by kernel_rfl) ?_
   refine goY ?_
   refine jC rfl (jJ y13 (gOe hx16)) ?_
   refine goY ?_
   refine jC rfl (jJ y3 (gHf hx6)) ?_
   refine goY ?_
   obtain⟨g18,h⟩:=mZ h
   obtain⟨⟨x19_0,x19_1,x19_2⟩,hx19,h⟩:=qR h
   have sx19:=(yD (gD.mk x6_1_0 x6_1_1 x6_1_2) g18).p
   rw [hx19] at sx19
   refine jC rfl (gF (sx19)) ?_
   refine goY ?_
   refine pY (T:=216) (us:=kZ [(jK.mk (jD.mk x16 (gD.mk x19_0 x19_1 x19_2)) (y3:Int) x17_0)]) ?_
   obtain⟨g20,h⟩:=mZ h
   refine pV (T:=216) g20 ?_
   refine goY ?_
   refine kS ?_
   refine goL ?_
   refine jI (jS y13 (by omega)) ?_
   exact⟨(y13+1),(y11++[(jK.mk (jD.mk x16 (gD.mk x19_0 x19_1 x19_2)) (y3:Int) x17_0)]),(v12+1),h,by omega,eJ⟩
  ·have hky132:=wF c15
   rw [jF hky132,vX.eq_1] at h
   refine goX ?_
   refine jI (jS y3 (by omega)) ?_
   exact⟨(y3+1),y11,v12,h,by omega,eJ⟩
 ·have hky32:=wF c5
  rw [jF hky32,qA.eq_1] at h
  refine goX ?_
  refine kK 1 rfl rfl ?_
  refine jN ?_
  cases h
  exact qK
def pW(a0:gB):Option (Bool):=
bnd (gOw 5000 a0 900) fun x1=>
bnd ((cnd (decide (x1≥0)) (bnd (gP3 5000 a0) fun x4=>
(cnd x4 (bnd (gGw 5000 a0) fun x6=>
(some (decide (x6≤14)))) ((some false)))) ((some false)))) fun b2=>
(some b2)
theorem wG(a0:gB){r:Bool}(h:pW a0=some r):jB Tryz.prog 78 [.d (mF a0)] [.b r]:=by
 obtain⟨a0_0,a0_1⟩:=a0
 unfold pW at h
 refine SpI Tryz.func78 fun A _=>?_
 refine goL ?_
 obtain⟨x1,hx1,h⟩:=gK h
 refine jI (gF (gZv 5000 (gB.mk a0_0 a0_1) 900 hx1)) ?_
 obtain⟨b2,hb2,h⟩:=gK h
 refine jU ⟨[(2,.B b2)],[.box [.S a0_0,.L 2 (gM a0_1)]],Tryz.f78.ntmps⟩ ?_ ?_
 ·refine gN 6 (fun c3=>?_) (fun c3=>?_)
  ·replace hb2:=gX c3 hb2
   refine goL ?_
   refine uD ?_
   obtain⟨x4,hx4,hb2⟩:=gK hb2
   refine jI (gF (hBo 5000 (gB.mk a0_0 a0_1) hx4)) ?_
   refine gN 10 (fun c5=>?_) (fun c5=>?_)
   ·replace hb2:=gX c5 hb2
    refine goL ?_
    refine uD ?_
    obtain⟨x6,hx6,hb2⟩:=gK hb2
    refine jI (gF (gO4 5000 (gB.mk a0_0 a0_1) hx6)) ?_
    cases hb2
    exact eJ
   ·replace hb2:=gY c5 hb2
    refine goL ?_
    cases hb2
    exact eJ
  ·replace hb2:=gY c3 hb2
   refine goL ?_
   cases hb2
   exact eJ
 exact goR h
def vY(a0:List (List UInt8))(a1:Int):Option (Bool):=
bnd ((cnd (decide ((a0.length:Int)≤a1)) ((cnd (gHz a0) (bnd (vT a0) fun x4=>
(some x4)) ((some false)))) ((some false)))) fun b1=>
(some b1)
theorem yL(a0:List (List UInt8))(a1:Int){r:Bool}(h:vY a0 a1=some r):jB Tryz.prog 102 [.L 1 (gZ a0),.I a1] [.b r]:=by
 unfold vY at h
 refine SpI Tryz.func102 fun A _=>?_
 refine goL ?_
 obtain⟨b1,hb1,h⟩:=gK h
 refine jU ⟨[(4,.B b1)],[],Tryz.f102.ntmps⟩ ?_ ?_
 ·refine gN 9 (fun c2=>?_) (fun c2=>?_)
  ·replace hb1:=gX c2 hb1
   refine goL ?_
   refine uD ?_
   refine jI (gF (gQm a0)) ?_
   refine gN 13 (fun c3=>?_) (fun c3=>?_)
   ·replace hb1:=gX c3 hb1
    refine goL ?_
    refine uD ?_
    obtain⟨x4,hx4,hb1⟩:=gK hb1
    refine jI (gF (zT a0 hx4)) ?_
    cases hb1
    exact eJ
   ·replace hb1:=gY c3 hb1
    refine goL ?_
    cases hb1
    exact eJ
  ·replace hb1:=gY c2 hb1
   refine goL ?_
   cases hb1
   exact eJ
 exact goR h
def vS(a0:gD):Option (Bool):=
bnd (gO1 5000 a0 60) fun x1=>
bnd ((cnd (decide (x1≥0)) (bnd (gHt 5000 a0) fun x4=>
(cnd (decide (x4≤6)) (bnd (gO7 5000 a0) fun x6=>
(some x6)) ((some false)))) ((some false)))) fun b2=>
(some b2)
theorem zQ(a0:gD){r:Bool}(h:vS a0=some r):jB Tryz.prog 169 [.d (jP a0)] [.b r]:=by
 obtain⟨a0_0,a0_1,a0_2⟩:=a0
 unfold vS at h
 refine SpI Tryz.func169 fun A _=>?_
 refine goL ?_
 obtain⟨x1,hx1,h⟩:=gK h
 refine jI (gF (gZ0 5000 (gD.mk a0_0 a0_1 a0_2) 60 hx1)) ?_
 obtain⟨b2,hb2,h⟩:=gK h
 refine jU ⟨[(2,.B b2)],[.box [.I a0_0,.S a0_1,.L 3 (gJ a0_2)]],Tryz.f169.ntmps⟩ ?_ ?_
 ·refine gN 6 (fun c3=>?_) (fun c3=>?_)
  ·replace hb2:=gX c3 hb2
   refine goL ?_
   refine uD ?_
   obtain⟨x4,hx4,hb2⟩:=gK hb2
   refine jI (gF (gQi 5000 (gD.mk a0_0 a0_1 a0_2) hx4)) ?_
   refine gN 11 (fun c5=>?_) (fun c5=>?_)
   ·replace hb2:=gX c5 hb2
    refine goL ?_
    refine uD ?_
    obtain⟨x6,hx6,hb2⟩:=gK hb2
    refine jI (gF (gZ7 5000 (gD.mk a0_0 a0_1 a0_2) hx6)) ?_
    cases hb2
    exact eJ
   ·replace hb2:=gY c5 hb2
    refine goL ?_
    cases hb2
    exact eJ
  ·replace hb2:=gY c3 hb2
   refine goL ?_
   cases hb2
   exact eJ
 exact goR h
end Go.Proofs.YtfaplndgbgoaaaaGreatDoor
