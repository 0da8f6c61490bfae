import Derived.Test.YtfaplndgbgoaaaaGreatDoorEng38
import Derived.Test.YtfaplndgbgoaaaaGreatDoorEng67
import Derived.Test.YtfaplndgbgoaaaaGreatDoorB2
import Derived.Test.YtfaplndgbgoaaaaGreatDoorB5
import Derived.Test.YtfaplndgbgoaaaaGreatDoorB6
set_option maxHeartbeats 4000000
set_option linter.unusedVariables false
set_option linter.unusedSimpArgs false
set_option linter.unusedSectionVars false
namespace Go.Proofs.YtfaplndgbgoaaaaGreatDoor
open Go Go.Eng
attribute [local irreducible] V VO VQ VY Quiet QR jB kX Rng uJ uY qW
def gO5(rec_l12Arm:gB→Option (gJa))(rec_l12Exprs:(List gB)→Option (List jM))(rec_l12Expr:gB→Option (jM))(a0:gB):Option (gJa):=
(cnd (decide ((a0.list.length:Int) < 2)) (
(some (gJa.mk [] [] (jM.mk 0 [] [] 0 (gD.mk 0 [] []) [] [])))) (
gd (0≤(1:Int)∧(1:Int)≤(IntKind.i64.wrap ((a0.list.length:Int) - 1))∧(IntKind.i64.wrap ((a0.list.length:Int) - 1))≤(a0.list.length:Int)) (
bnd (gHo ((a0.list.drop (Int.toNat 1)).take (Int.toNat (IntKind.i64.wrap ((a0.list.length:Int) - 1)) - Int.toNat 1))) fun x3=>
bnd (at? a0.list 0) fun x4=>
bnd (at? a0.list (IntKind.i64.wrap ((a0.list.length:Int) - 1))) fun x5=>
bnd (rec_l12Expr x5) fun x6=>
(some (gJa.mk x4.atom x3.1 x6)))))
theorem gZ5{rec_l12Arm:gB→Option (gJa)}{rec_l12Exprs:(List gB)→Option (List jM)}{rec_l12Expr:gB→Option (jM)}(hrec_l12Arm:∀(x0:gB) {r:gJa},rec_l12Arm x0=some r→jB Tryz.prog 140 [.d (mF x0)] [gZl r])(hrec_l12Exprs:∀(x0:List gB) {r:List jM},rec_l12Exprs x0=some r→jB Tryz.prog 139 [.L 2 (gM x0)] [.sl 9 (kP r)])(hrec_l12Expr:∀(x0:gB) {r:jM},rec_l12Expr x0=some r→jB Tryz.prog 117 [.d (mF x0)] [yR r])(a0:gB){r:gJa}(h:gO5 rec_l12Arm rec_l12Exprs rec_l12Expr a0=some r):jB Tryz.prog 140 [.d (mF a0)] [gZl r]:=by
 obtain⟨a0_0,a0_1⟩:=a0
 unfold gO5 at h
 refine SpI Tryz.func140 fun A _=>?_
 refine goC h ?_ ?_<;>intro c1 h
 ·refine goL ?_
  refine gA6 (kD TBd.h TZ.h rfl (by repeat constructor)) ?_
  exact goR h
 ·refine goS ?_
  refine qP (qC) ?_
  obtain⟨g2,h⟩:=mZ h
  refine qP (hCt g2) ?_
  obtain⟨⟨x3_0,x3_1⟩,hx3,h⟩:=gK h
  refine qP (gF (gMa ((a0_1.drop (Int.toNat 1)).take (Int.toNat (IntKind.i64.wrap ((a0_1.length:Int) - 1)) - Int.toNat 1)) hx3)) ?_
  refine gHk ?_
  refine jL (P:=Tryz.prog) Mix.h [(0,true),(1,true),(2,true),(3,true),(4,true),(5,true),(6,true),(7,true),(8,true),(9,true),(10,true),(11,true),(12,true),(13,true),(14,false)] (by kernel_rfl) ?_
  refine goY ?_
  obtain⟨x4,hx4,h⟩:=gK h
  obtain⟨hx40,hx4⟩:=gD6 hx4
  obtain⟨x4_0,x4_1⟩:=x4
  refine jC rfl (qU hx40 (qO hx4)) ?_
  refine goY ?_
  refine jC rfl (qC) ?_
  obtain⟨x5,hx5,h⟩:=gK h
  obtain⟨hx50,hx5⟩:=gD6 hx5
  obtain⟨x5_0,x5_1⟩:=x5
  refine jC rfl (qU hx50 (qO hx5)) ?_
  refine goY ?_
  obtain⟨⟨x6_0,x6_1,x6_2,x6_3,⟨x6_4_0,x6_4_1,x6_4_2⟩,x6_5,x6_6⟩,hx6,h⟩:=gK h
  refine jC rfl (gF (hrec_l12Expr (gB.mk x5_0 x5_1) hx6)) ?_
  refine goY ?_
  refine kS ?_
  exact goR h
def gCj(rec_l12Expr:gB→Option (jM)):List gB→(List jM)→Option (List jM)
 | [],y1=>(some y1)
 | x6::xs,y1=>bnd (rec_l12Expr x6) fun x7=>
gd (y1.length+[x7].length≤4294967296) (
gCj rec_l12Expr xs (y1++[x7]))
def gKo(rec_l12Arm:gB→Option (gJa))(rec_l12Exprs:(List gB)→Option (List jM))(rec_l12Expr:gB→Option (jM))(a0:List gB):Option (List jM):=
gCj rec_l12Expr a0 []
theorem gVb{rec_l12Arm:gB→Option (gJa)}{rec_l12Exprs:(List gB)→Option (List jM)}{rec_l12Expr:gB→Option (jM)}(hrec_l12Arm:∀(x0:gB) {r:gJa},rec_l12Arm x0=some r→jB Tryz.prog 140 [.d (mF x0)] [gZl r])(hrec_l12Exprs:∀(x0:List gB) {r:List jM},rec_l12Exprs x0=some r→jB Tryz.prog 139 [.L 2 (gM x0)] [.sl 9 (kP r)])(hrec_l12Expr:∀(x0:gB) {r:jM},rec_l12Expr x0=some r→jB Tryz.prog 117 [.d (mF x0)] [yR r])(a0:List gB){r:List jM}(h:gKo rec_l12Arm rec_l12Exprs rec_l12Expr a0=some r):jB Tryz.prog 139 [.L 2 (gM a0)] [.sl 9 (kP r)]:=by
 unfold gKo at h
 refine SpI Tryz.func139 fun A _=>?_
 refine goL ?_
 refine zN ?_
 refine goL ?_
 refine noB ?_
 refine gFj 0 (fun z4=>?_)
 refine kR (fun(y3:Nat) (y1:List jM) (v2:Nat)=>⟨[(0,.L 2 (gM a0)),(3,.sl 0 v2),(4,.N y3)],[.arr 168 9 v2 (kP y1)],Tryz.f139.ntmps⟩) (fun y3 y1 v2=>gCj rec_l12Expr (a0.drop y3) y1=some r) (fun y3 y1 v2=>a0.length - y3) 0 [] 0 eJ h ?_
 rintro y3 y1 v2 h
 refine goL ?_
 refine mO (fun c5=>?_) (fun c5=>?_)
 ·have hky32:=wE c5
  obtain⟨x6,hx6,hdx6⟩:=drop_at hky32
  rw [hdx6,gCj.eq_2] at h
  obtain⟨x6_0,x6_1⟩:=x6
  refine noS ?_
  refine kI (jE ?_)
  refine goL ?_
  refine jI (jJ y3 (qO hx6)) ?_
  obtain⟨⟨x7_0,x7_1,x7_2,x7_3,⟨x7_4_0,x7_4_1,x7_4_2⟩,x7_5,x7_6⟩,hx7,h⟩:=gK h
  refine qP (gF (hrec_l12Expr (gB.mk x6_0 x6_1) hx7)) ?_
  refine gBc (u:=(.st [.i .i64 x7_0,.s x7_1,.s x7_2,.i .i64 x7_3,.st [.i .i64 x7_4_0,.s x7_4_1,.sl 3 (gJ x7_4_2)],.sl 9 (kP x7_5),.sl 11 (qD x7_6)])) ?_
  obtain⟨g8,h⟩:=mZ h
  refine gBf g8 ?_
  refine goL ?_
  refine jI (jS y3 (by omega)) ?_
  exact⟨(y3+1),(y1++[(jM.mk x7_0 x7_1 x7_2 x7_3 (gD.mk x7_4_0 x7_4_1 x7_4_2) x7_5 x7_6)]),(v2+1),h,by omega,eJ⟩
 ·have hky32:=wF c5
  rw [jF hky32,gCj.eq_1] at h
  refine goX ?_
  refine kK 0 rfl rfl ?_
  refine jN ?_
  cases h
  exact qK
def gDi(rec_l12Arm:gB→Option (gJa))(x37:List jM):List gB→(List gJa)→Option (jM)
 | [],y38=>(some (jM.mk 7 [] [] 0 (gD.mk 0 [] []) x37 y38))
 | x43::xs,y38=>bnd (rec_l12Arm x43) fun x44=>
gd (y38.length+[x44].length≤4294967296) (
gDi rec_l12Arm x37 xs (y38++[x44]))
def gMi(rec_l12Arm:gB→Option (gJa))(rec_l12Exprs:(List gB)→Option (List jM))(rec_l12Expr:gB→Option (jM))(a0:gB):Option (jM):=
(cnd (!(a0.atom==[])) (
bnd (gI8 a0.atom) fun x2=>
(cnd x2.2 (
lt_ (gLl x2.1) fun x4=>
(some x4)) (
(cnd (a0.atom==[116,114,117,101]) (
(some (jM.mk 2 [] [] 1 (gD.mk 0 [] []) [] []))) (
(cnd (a0.atom==[102,97,108,115,101]) (
(some (jM.mk 2 [] [] 0 (gD.mk 0 [] []) [] []))) (
lt_ (gLm a0.atom) fun x7=>
(some x7)))))))) (
gd (([]:List gB).length+a0.list.length≤4294967296) (
gd (([]++a0.list).length+[(gB.mk [] []),(gB.mk [] []),(gB.mk [] [])].length≤4294967296) (
bnd (at? (([]++a0.list)++[(gB.mk [] []),(gB.mk [] []),(gB.mk [] [])]) 1) fun x10=>
bnd (at? (([]++a0.list)++[(gB.mk [] []),(gB.mk [] []),(gB.mk [] [])]) 0) fun x11=>
(cnd (x11.atom==[99,97,108,108]) (
gd (0≤(pI 2 (a0.list.length:Int))∧(pI 2 (a0.list.length:Int))≤(a0.list.length:Int)) (
bnd (rec_l12Exprs (a0.list.drop (Int.toNat (pI 2 (a0.list.length:Int))))) fun x14=>
(some (jM.mk 4 [] x10.atom 0 (gD.mk 0 [] []) x14 [])))) (
(cnd (x11.atom==[109,101,116,104,111,100]) (
bnd (at? (([]++a0.list)++[(gB.mk [] []),(gB.mk [] []),(gB.mk [] [])]) 2) fun x16=>
gd (0≤(pI 3 (a0.list.length:Int))∧(pI 3 (a0.list.length:Int))≤(a0.list.length:Int)) (
bnd (rec_l12Exprs (a0.list.drop (Int.toNat (pI 3 (a0.list.length:Int))))) fun x18=>
(some (jM.mk 5 x10.atom x16.atom 0 (gD.mk 0 [] []) x18 [])))) (
(cnd (x11.atom==[110,101,119]) (
gd (0≤(pI 2 (a0.list.length:Int))∧(pI 2 (a0.list.length:Int))≤(a0.list.length:Int)) (
bnd (rec_l12Exprs (a0.list.drop (Int.toNat (pI 2 (a0.list.length:Int))))) fun x21=>
(some (jM.mk 6 [] x10.atom 0 (gD.mk 0 [] []) x21 [])))) (
(cnd (x11.atom==[108,101,116]) (
gd (0≤(pI 2 (a0.list.length:Int))∧(pI 2 (a0.list.length:Int))≤(a0.list.length:Int)) (
bnd (rec_l12Exprs (a0.list.drop (Int.toNat (pI 2 (a0.list.length:Int))))) fun x24=>
(some (jM.mk 8 [] x10.atom 0 (gD.mk 0 [] []) x24 [])))) (
(cnd (x11.atom==[105,102]) (
gd (0≤(1:Int)∧1≤(a0.list.length:Int)) (
bnd (rec_l12Exprs (a0.list.drop (Int.toNat 1))) fun x27=>
(some (jM.mk 9 [] [] 0 (gD.mk 0 [] []) x27 [])))) (
(cnd (x11.atom==[112,97,99,107]) (
gd (0≤(pI 2 (a0.list.length:Int))∧(pI 2 (a0.list.length:Int))≤(a0.list.length:Int)) (
bnd (rec_l12Exprs (a0.list.drop (Int.toNat (pI 2 (a0.list.length:Int))))) fun x30=>
(some (jM.mk 11 x10.atom [] 0 (gD.mk 0 [] []) x30 [])))) (
(cnd (x11.atom==[116,104,101]) (
bnd (gIv 5000 x10) fun x32=>
gd (0≤(pI 2 (a0.list.length:Int))∧(pI 2 (a0.list.length:Int))≤(a0.list.length:Int)) (
bnd (rec_l12Exprs (a0.list.drop (Int.toNat (pI 2 (a0.list.length:Int))))) fun x34=>
(some (jM.mk 12 [] [] 0 x32 x34 [])))) (
(cnd (x11.atom==[99,97,115,101]) (
gd (0≤(1:Int)∧(1:Int)≤(pI 2 (a0.list.length:Int))∧(pI 2 (a0.list.length:Int))≤(a0.list.length:Int)) (
bnd (rec_l12Exprs ((a0.list.drop (Int.toNat 1)).take (Int.toNat (pI 2 (a0.list.length:Int)) - Int.toNat 1))) fun x37=>
gDi rec_l12Arm x37 (a0.list.drop 2) [])) (
gd (0≤(pI 1 (a0.list.length:Int))∧(pI 1 (a0.list.length:Int))≤(a0.list.length:Int)) (
bnd (rec_l12Exprs (a0.list.drop (Int.toNat (pI 1 (a0.list.length:Int))))) fun x47=>
(some (jM.mk 10 [] x11.atom 0 (gD.mk 0 [] []) x47 [])))))))))))))))))))))))
theorem gWp{rec_l12Arm:gB→Option (gJa)}{rec_l12Exprs:(List gB)→Option (List jM)}{rec_l12Expr:gB→Option (jM)}(hrec_l12Arm:∀(x0:gB) {r:gJa},rec_l12Arm x0=some r→jB Tryz.prog 140 [.d (mF x0)] [gZl r])(hrec_l12Exprs:∀(x0:List gB) {r:List jM},rec_l12Exprs x0=some r→jB Tryz.prog 139 [.L 2 (gM x0)] [.sl 9 (kP r)])(hrec_l12Expr:∀(x0:gB) {r:jM},rec_l12Expr x0=some r→jB Tryz.prog 117 [.d (mF x0)] [yR r])(a0:gB){r:jM}(h:gMi rec_l12Arm rec_l12Exprs rec_l12Expr a0=some r):jB Tryz.prog 117 [.d (mF a0)] [yR r]:=by
 obtain⟨a0_0,a0_1⟩:=a0
 unfold gMi at h
 refine SpI Tryz.func117 fun A _=>?_
 refine goC h ?_ ?_<;>intro c1 h
 ·refine goL ?_
  obtain⟨⟨x2_0,x2_1⟩,hx2,h⟩:=gK h
  refine jI (gF (gSe a0_0 hx2)) ?_
  refine kI (jE ?_)
  refine goC h ?_ ?_<;>intro c3 h
  ·refine goL ?_
   obtain⟨⟨x4_0,x4_1,x4_2,x4_3,⟨x4_4_0,x4_4_1,x4_4_2⟩,x4_5,x4_6⟩,hx4,h⟩:=qR h
   have sx4:=gZx x2_0
   rw [hx4] at sx4
   refine qP (gF (sx4)) ?_
   exact goR h
  ·refine goC h ?_ ?_<;>intro c5 h
   ·refine goL ?_
    refine gA6 (kD TBd.h TZ.h rfl (by repeat constructor)) ?_
    exact goR h
   ·refine goC h ?_ ?_<;>intro c6 h
    ·refine goL ?_
     refine gA6 (kD TBd.h TZ.h rfl (by repeat constructor)) ?_
     exact goR h
    ·refine goS ?_
     obtain⟨⟨x7_0,x7_1,x7_2,x7_3,⟨x7_4_0,x7_4_1,x7_4_2⟩,x7_5,x7_6⟩,hx7,h⟩:=qR h
     have sx7:=gZy a0_0
     rw [hx7] at sx7
     refine qP (gF (sx7)) ?_
     exact goR h
 ·refine goS ?_
  refine zN ?_
  refine goL ?_
  obtain⟨g8,h⟩:=mZ h
  refine gBf g8 ?_
  refine gA6 (kD TBd.h TZ.h rfl (by repeat constructor)) ?_
  refine gA6 (kD TBd.h TZ.h rfl (by repeat constructor)) ?_
  refine gA6 (kD TBd.h TZ.h rfl (by repeat constructor)) ?_
  refine gM3 (us:=gM [(gB.mk [] []),(gB.mk [] []),(gB.mk [] [])]) ?_
  obtain⟨g9,h⟩:=mZ h
  refine gBf g9 ?_
  refine goL ?_
  refine vO 2 rfl rfl ?_
  refine gX4 ?_
  obtain⟨x10,hx10,h⟩:=gK h
  obtain⟨hx100,hx10⟩:=gD6 hx10
  obtain⟨x10_0,x10_1⟩:=x10
  refine jI (qU hx100 (qO hx10)) ?_
  obtain⟨x11,hx11,h⟩:=gK h
  obtain⟨hx110,hx11⟩:=gD6 hx11
  obtain⟨x11_0,x11_1⟩:=x11
  refine jI (qU hx110 (qO hx11)) ?_
  refine jE ?_
  refine goC h ?_ ?_<;>intro c12 h
  ·refine jL (P:=Tryz.prog) Mix.h [(0,true),(1,true),(2,true),(3,true),(4,true),(5,true),(6,true),(7,true),(8,false)] (by kernel_rfl) ?_
   refine goY ?_
   refine jC rfl (gF (gGs 2 (a0_1.length:Int))) ?_
   obtain⟨g13,h⟩:=mZ h
   refine jC rfl (gIz g13) ?_
   obtain⟨x14,hx14,h⟩:=gK h
   refine jC rfl (gF (hrec_l12Exprs (a0_1.drop (Int.toNat (pI 2 (a0_1.length:Int)))) hx14)) ?_
   refine goY ?_
   refine kS ?_
   exact goR h
  ·refine goC h ?_ ?_<;>intro c15 h
   ·refine jL (P:=Tryz.prog) Mix.h [(0,true),(1,true),(2,true),(3,true),(4,true),(5,true),(6,true),(7,true),(8,true),(9,true),(10,true),(11,true),(12,false)] (by kernel_rfl) ?_
    refine goY ?_
    obtain⟨x16,hx16,h⟩:=gK h
    obtain⟨hx160,hx16⟩:=gD6 hx16
    obtain⟨x16_0,x16_1⟩:=x16
    refine jC rfl (qU hx160 (qO hx16)) ?_
    refine goY ?_
    refine jC rfl (gF (gGs 3 (a0_1.length:Int))) ?_
    obtain⟨g17,h⟩:=mZ h
    refine jC rfl (gIz g17) ?_
    obtain⟨x18,hx18,h⟩:=gK h
    refine jC rfl (gF (hrec_l12Exprs (a0_1.drop (Int.toNat (pI 3 (a0_1.length:Int)))) hx18)) ?_
    refine goY ?_
    refine kS ?_
    exact goR h
   ·refine goC h ?_ ?_<;>intro c19 h
    ·refine jL (P:=Tryz.prog) Mix.h [(0,true),(1,true),(2,true),(3,true),(4,true),(5,true),(6,true),(7,true),(8,false)] (by kernel_rfl) ?_
     refine goY ?_
     refine jC rfl (gF (gGs 2 (a0_1.length:Int))) ?_
     obtain⟨g20,h⟩:=mZ h
     refine jC rfl (gIz g20) ?_
     obtain⟨x21,hx21,h⟩:=gK h
     refine jC rfl (gF (hrec_l12Exprs (a0_1.drop (Int.toNat (pI 2 (a0_1.length:Int)))) hx21)) ?_
     refine goY ?_
     refine kS ?_
     exact goR h
    ·refine goC h ?_ ?_<;>intro c22 h
     ·refine jL (P:=Tryz.prog) Mix.h [(0,true),(1,true),(2,true),(3,true),(4,true),(5,true),(6,true),(7,true),(8,false)] (by kernel_rfl) ?_
      refine goY ?_
      refine jC rfl (gF (gGs 2 (a0_1.length:Int))) ?_
      obtain⟨g23,h⟩:=mZ h
      refine jC rfl (gIz g23) ?_
      obtain⟨x24,hx24,h⟩:=gK h
      refine jC rfl (gF (hrec_l12Exprs (a0_1.drop (Int.toNat (pI 2 (a0_1.length:Int)))) hx24)) ?_
      refine goY ?_
      refine kS ?_
      exact goR h
     ·refine goC h ?_ ?_<;>intro c25 h
      ·refine goL ?_
       obtain⟨g26,h⟩:=mZ h
       refine qP (gIz g26) ?_
       obtain⟨x27,hx27,h⟩:=gK h
       refine qP (gF (hrec_l12Exprs (a0_1.drop (Int.toNat 1)) hx27)) ?_
       refine gA6 (kD TBd.h TZ.h rfl (by repeat constructor)) ?_
       exact goR h
      ·refine goC h ?_ ?_<;>intro c28 h
       ·refine jL (P:=Tryz.prog) Mix.h [(0,true),(1,true),(2,true),(3,true),(4,true),(5,true),(6,true),(7,true),(8,false)] (by kernel_rfl) ?_
        refine goY ?_
        refine jC rfl (gF (gGs 2 (a0_1.length:Int))) ?_
        obtain⟨g29,h⟩:=mZ h
        refine jC rfl (gIz g29) ?_
        obtain⟨x30,hx30,h⟩:=gK h
        refine jC rfl (gF (hrec_l12Exprs (a0_1.drop (Int.toNat (pI 2 (a0_1.length:Int)))) hx30)) ?_
        refine goY ?_
        refine kS ?_
        exact goR h
       ·refine goC h ?_ ?_<;>intro c31 h
        ·refine jL (P:=Tryz.prog) Mix.h [(0,true),(1,true),(2,true),(3,true),(4,true),(5,true),(6,true),(7,true),(8,true),(9,true),(10,true),(11,false)] (by kernel_rfl) ?_
         refine goY ?_
         refine jC rfl (qU hx100 (qO hx10)) ?_
         refine goY ?_
         obtain⟨⟨x32_0,x32_1,x32_2⟩,hx32,h⟩:=gK h
         refine jC rfl (gF (gK5 5000 (gB.mk x10_0 x10_1) hx32)) ?_
         refine goY ?_
         refine jC rfl (gF (gGs 2 (a0_1.length:Int))) ?_
         obtain⟨g33,h⟩:=mZ h
         refine jC rfl (gIz g33) ?_
         obtain⟨x34,hx34,h⟩:=gK h
         refine jC rfl (gF (hrec_l12Exprs (a0_1.drop (Int.toNat (pI 2 (a0_1.length:Int)))) hx34)) ?_
         refine goY ?_
         refine kS ?_
         exact goR h
        ·refine goC h ?_ ?_<;>intro c35 h
         ·refine jL (P:=Tryz.prog) Mix.h [(0,true),(1,true),(2,true),(3,true),(4,true),(5,true),(6,true),(7,false),(8,false)] (by kernel_rfl) ?_
          refine goY ?_
          refine jC rfl (gF (gGs 2 (a0_1.length:Int))) ?_
          obtain⟨g36,h⟩:=mZ h
          refine jC rfl (hCt g36) ?_
          obtain⟨x37,hx37,h⟩:=gK h
          refine jC rfl (gF (hrec_l12Exprs ((a0_1.drop (Int.toNat 1)).take (Int.toNat (pI 2 (a0_1.length:Int)) - Int.toNat 1)) hx37)) ?_
          refine goY ?_
          refine kS ?_
          refine goL ?_
          refine noB ?_
          refine yJ 227 11 4 8 rfl rfl (by repeat constructor) (by repeat constructor) (by repeat constructor) (by repeat constructor) ?_
          show V _ _ _ _ _
          refine gFj 38 (fun z41=>?_)
          refine kR (fun(y40:Nat) (y38:List gJa) (v39:Nat)=>⟨[(1,.ptr 0 0),(2,.ptr 1 0),(6,.I (a0_1.length:Int)),(8,.ptr 4 0),(9,.N y40)],[.box [.S a0_0,.L 2 (gM a0_1)],.box [.I 0,.S [],.S [],.I 0,.I 0,.S [],.nilsl,.nilsl,.nilsl],.frz 107 2 ((0+1)+1) (gM (([]++a0_1)++[(gB.mk [] []),(gB.mk [] []),(gB.mk [] [])])),.arr 107 2 0 (gM [(gB.mk [] []),(gB.mk [] []),(gB.mk [] [])]),.box [.I 7,.S [],.S [],.I 0,.I 0,.S [],.nilsl,.L 9 (kP x37),.sl 5 v39],.arr 227 11 v39 (qD y38)],Tryz.f117.ntmps⟩) (fun y40 y38 v39=>gDi rec_l12Arm x37 (a0_1.drop y40) y38=some r) (fun y40 y38 v39=>a0_1.length - y40) 2 [] 0 eJ h ?_
          rintro y40 y38 v39 h
          refine goL ?_
          refine mO (fun c42=>?_) (fun c42=>?_)
          ·have hky402:=wE c42
           obtain⟨x43,hx43,hdx43⟩:=drop_at hky402
           rw [hdx43,gDi.eq_2] at h
           obtain⟨x43_0,x43_1⟩:=x43
           refine noS ?_
           refine kI (jE ?_)
           refine uX (P:=Tryz.prog) Mix.h [(0,true),(1,true),(2,true),(3,true),(4,true),(5,true),(6,true),(7,true),(8,false),(9,false),(10,true),(11,false)] (by kernel_rfl) ?_
           refine goY ?_
           refine jC rfl (jJ y40 (qO hx43)) ?_
           refine goY ?_
           obtain⟨⟨x44_0,x44_1,⟨x44_2_0,x44_2_1,x44_2_2,x44_2_3,⟨x44_2_4_0,x44_2_4_1,x44_2_4_2⟩,x44_2_5,x44_2_6⟩⟩,hx44,h⟩:=gK h
           refine jC rfl (gF (hrec_l12Arm (gB.mk x43_0 x43_1) hx44)) ?_
           refine pY (T:=166) (us:=qD [(gJa.mk x44_0 x44_1 (jM.mk x44_2_0 x44_2_1 x44_2_2 x44_2_3 (gD.mk x44_2_4_0 x44_2_4_1 x44_2_4_2) x44_2_5 x44_2_6))]) ?_
           obtain⟨g45,h⟩:=mZ h
           refine pV (T:=166) g45 ?_
           refine goY ?_
           refine kS ?_
           refine goL ?_
           refine jI (jS y40 (by omega)) ?_
           exact⟨(y40+1),(y38++[(gJa.mk x44_0 x44_1 (jM.mk x44_2_0 x44_2_1 x44_2_2 x44_2_3 (gD.mk x44_2_4_0 x44_2_4_1 x44_2_4_2) x44_2_5 x44_2_6))]),(v39+1),h,by omega,eJ⟩
          ·have hky402:=wF c42
           rw [jF hky402,gDi.eq_1] at h
           refine goX ?_
           refine kK 5 rfl rfl ?_
           refine jN ?_
           cases h
           exact qK
         ·refine noS ?_
          refine jL (P:=Tryz.prog) Mix.h [(0,true),(1,true),(2,true),(3,true),(4,true),(5,true),(6,true),(7,true),(8,true),(9,true),(10,true),(11,false)] (by kernel_rfl) ?_
          refine goY ?_
          refine jC rfl (qU hx110 (qO hx11)) ?_
          refine goY ?_
          refine jC rfl (gF (gGs 1 (a0_1.length:Int))) ?_
          obtain⟨g46,h⟩:=mZ h
          refine jC rfl (gIz g46) ?_
          obtain⟨x47,hx47,h⟩:=gK h
          refine jC rfl (gF (hrec_l12Exprs (a0_1.drop (Int.toNat (pI 1 (a0_1.length:Int)))) hx47)) ?_
          refine goY ?_
          refine kS ?_
          exact goR h
mutual
def gLo:Nat→gB→Option (gJa)
 | 0,_=>none
 | n+1,x0=>gO5 (gLo n) (gIf n) (gDj n) x0
def gIf:Nat→(List gB)→Option (List jM)
 | 0,_=>none
 | n+1,x0=>gKo (gLo n) (gIf n) (gDj n) x0
def gDj:Nat→gB→Option (jM)
 | 0,_=>none
 | n+1,x0=>gMi (gLo n) (gIf n) (gDj n) x0
end
theorem gWq:∀(n:Nat),(∀(x0:gB) {r:gJa},gLo n x0=some r→jB Tryz.prog 140 [.d (mF x0)] [gZl r])∧(∀(x0:List gB) {r:List jM},gIf n x0=some r→jB Tryz.prog 139 [.L 2 (gM x0)] [.sl 9 (kP r)])∧(∀(x0:gB) {r:jM},gDj n x0=some r→jB Tryz.prog 117 [.d (mF x0)] [yR r]):=by
 intro n
 induction n with
 | zero=>exact⟨(by intro x0 r h;cases h),(by intro x0 r h;cases h),(by intro x0 r h;cases h)⟩
 | succ n ih=>
   obtain⟨ih0,ih1,ih2⟩:=ih
   refine⟨(fun x0 r h=>gZ5 ih0 ih1 ih2 x0 h),(fun x0 r h=>gVb ih0 ih1 ih2 x0 h),(fun x0 r h=>gWp ih0 ih1 ih2 x0 h)⟩
theorem gMj:∀(n:Nat) (x0:gB) {r:jM},gDj n x0=some r→jB Tryz.prog 117 [.d (mF x0)] [yR r]:=fun n=>(gWq n).2.2
def gDk:List (List UInt8)→Bool
 | []=>true
 | x4::xs=>(cnd (!(kW x4)) (
false) (
gDk xs ))
def gHz(a0:List (List UInt8)):Bool:=
gDk a0
theorem gQm(a0:List (List UInt8)):jB Tryz.prog 126 [.L 1 (gZ a0)] [.b (gHz a0)]:=by
 obtain⟨r,h⟩:∃r,gHz a0=r:=⟨_,rfl⟩
 rw [h]
 unfold gHz at h
 refine SpI Tryz.func126 fun A _=>?_
 refine goL ?_
 refine noB ?_
 refine gFj 0 (fun z2=>?_)
 refine pJ (fun(y1:Nat)=>⟨[(0,.L 1 (gZ a0)),(3,.N y1)],[],Tryz.f126.ntmps⟩) (fun y1=>gDk (a0.drop y1)  =r) (fun y1=>a0.length - y1) 0 eJ h ?_
 rintro y1 h
 refine goL ?_
 refine mO (fun c3=>?_) (fun c3=>?_)
 ·have hky12:=wE c3
  obtain⟨x4,hx4,hdx4⟩:=drop_at hky12
  rw [hdx4,gDk.eq_2] at h
  refine noS ?_
  refine kI (jE ?_)
  refine goL ?_
  refine jI (jJ y1 (gOe hx4)) ?_
  refine jI (gF (pK x4)) ?_
  refine mO (fun c5=>?_) (fun c5=>?_)
  ·replace h:=gX c5 h
   refine goL ?_
   refine jN ?_
   subst h
   exact qK
  ·replace h:=gY c5 h
   refine goS ?_
   refine jI (jS y1 (by omega)) ?_
   exact⟨(y1+1),h,by omega,eJ⟩
 ·have hky12:=wF c3
  rw [jF hky12,gDk.eq_1] at h
  refine goX ?_
  refine jN ?_
  subst h
  exact qK
def gE1(rec_l4Form:gD→Option (Bool)):List gD→Bool→Option (Bool)
 | [],y6=>(some y6)
 | x10::xs,y6=>bnd ((cnd y6 (bnd (rec_l4Form x10) fun x13=>
(some x13)) ((some false)))) fun b11=>
gE1 rec_l4Form xs b11
def gE2(rec_l4Form:gD→Option (Bool)):List gD→Bool→Option (Bool)
 | [],y17=>(some y17)
 | x21::xs,y17=>bnd ((cnd y17 (bnd (rec_l4Form x21) fun x24=>
(some x24)) ((some false)))) fun b22=>
gE2 rec_l4Form xs b22
def gE3(rec_l4Form:gD→Option (Bool)):List gD→Bool→Option (Bool)
 | [],y31=>(some y31)
 | x35::xs,y31=>bnd ((cnd y31 (bnd (rec_l4Form x35) fun x38=>
(some x38)) ((some false)))) fun b36=>
gE3 rec_l4Form xs b36
def gO6(rec_l4Form:gD→Option (Bool))(a0:gD):Option (Bool):=
bnd ((cnd (a0.kind==1) (
(some (a0.kind==1))) (
(some (a0.kind==4))))) fun b1=>
(cnd b1 (
lt_ ((cnd (kW a0.name) (((a0.args.length:Int)==0)) (false))) fun b4=>
gE1 rec_l4Form a0.args b4) (
(cnd (a0.kind==3) (
lt_ ((cnd (kW a0.name) (((a0.args.length:Int)==1)) (false))) fun b15=>
gE2 rec_l4Form a0.args b15) (
(cnd (a0.kind==2) (
lt_ ((cnd (kW a0.name) ((cnd (decide ((a0.args.length:Int)≤3)) (true) ((cnd (gJu a0.name) (((a0.args.length:Int)==0)) (false))))) ((cnd (gJu a0.name) (((a0.args.length:Int)==0)) (false))))) fun b26=>
gE3 rec_l4Form a0.args b26) (
(some false)))))))
theorem gZ6{rec_l4Form:gD→Option (Bool)}(hrec_l4Form:∀(x0:gD) {r:Bool},rec_l4Form x0=some r→jB Tryz.prog 185 [.d (jP x0)] [.b r])(a0:gD){r:Bool}(h:gO6 rec_l4Form a0=some r):jB Tryz.prog 185 [.d (jP a0)] [.b r]:=by
 obtain⟨a0_0,a0_1,a0_2⟩:=a0
 unfold gO6 at h
 refine SpI Tryz.func185 fun A _=>?_
 refine goL ?_
 refine jI (gF (pK a0_1)) ?_
 refine jE ?_
 refine goL ?_
 obtain⟨b1,hb1,h⟩:=gK h
 refine gD4 ⟨[(1,.ptr 0 0),(3,.B (kW a0_1)),(9,.I a0_0),(10,.B b1)],[.box [.I a0_0,.S a0_1,.L 3 (gJ a0_2)]],Tryz.f185.ntmps⟩ ?_ ?_
 ·refine mO (fun c2=>?_) (fun c2=>?_)
  ·replace hb1:=gX c2 hb1
   refine gAi ?_
   cases hb1
   exact eJ
  ·replace hb1:=gY c2 hb1
   refine goL ?_
   cases hb1
   exact eJ
 refine goC h ?_ ?_<;>intro c3 h
 ·refine goL ?_
  obtain⟨b4,hb4,h⟩:=qR h
  refine jU ⟨[(1,.ptr 0 0),(3,.B b4)],[.box [.I a0_0,.S a0_1,.L 3 (gJ a0_2)]],Tryz.f185.ntmps⟩ ?_ ?_
  ·refine gN 14 (fun c5=>?_) (fun c5=>?_) (by first | rfl | (simp only [jG,gU];rfl))
   ·replace hb4:=gX c5 hb4
    refine goL ?_
    cases hb4
    exact⟨rfl,⟨⟨rfl,rfl⟩,⟨by first | rfl | (simp only [jG,gU];rfl),rfl⟩,trivial⟩,⟨_,rfl⟩,rfl⟩
   ·replace hb4:=gY c5 hb4
    refine goL ?_
    cases hb4
    exact⟨rfl,⟨⟨rfl,rfl⟩,⟨by first | rfl | (simp only [jG,gU];rfl),rfl⟩,trivial⟩,⟨_,rfl⟩,rfl⟩
  refine goL ?_
  refine noB ?_
  refine vN 0 2 (fun z8=>?_)
  refine gD3 (fun(y7:Nat) (y6:Bool)=>⟨[(1,.ptr 0 0),(3,.B y6),(4,.N y7)],[.box [.I a0_0,.S a0_1,.L 3 (gJ a0_2)]],Tryz.f185.ntmps⟩) (fun y7 y6=>gE1 rec_l4Form (a0_2.drop y7) y6=some r) (fun y7 y6=>a0_2.length - y7) 0 b4 eJ h ?_
  rintro y7 y6 h
  refine goL ?_
  refine mO (fun c9=>?_) (fun c9=>?_)
  ·have hky72:=wE c9
   obtain⟨x10,hx10,hdx10⟩:=drop_at hky72
   rw [hdx10,gE1.eq_2] at h
   obtain⟨x10_0,x10_1,x10_2⟩:=x10
   refine noS ?_
   refine kI (jE ?_)
   refine goL ?_
   obtain⟨b11,hb11,h⟩:=gK h
   refine jU ⟨[(1,.ptr 0 0),(4,.N y7),(3,.B b11)],[.box [.I a0_0,.S a0_1,.L 3 (gJ a0_2)]],Tryz.f185.ntmps⟩ ?_ ?_
   ·refine gN 57 (fun c12=>?_) (fun c12=>?_)
    ·replace hb11:=gX c12 hb11
     refine goL ?_
     refine uD ?_
     refine jI (jJ y7 (gBb hx10)) ?_
     refine uD ?_
     obtain⟨x13,hx13,hb11⟩:=gK hb11
     refine jI (gF (hrec_l4Form (gD.mk x10_0 x10_1 x10_2) hx13)) ?_
     cases hb11
     exact eJ
    ·replace hb11:=gY c12 hb11
     refine goL ?_
     cases hb11
     exact eJ
   refine goL ?_
   refine jI (jS y7 (by omega)) ?_
   exact⟨(y7+1),b11,h,by omega,eJ⟩
  ·have hky72:=wF c9
   rw [jF hky72,gE1.eq_1] at h
   refine goX ?_
   refine jN ?_
   cases h
   exact qK
 ·refine goC h ?_ ?_<;>intro c14 h
  ·refine goL ?_
   obtain⟨b15,hb15,h⟩:=qR h
   refine jU ⟨[(1,.ptr 0 0),(3,.B b15)],[.box [.I a0_0,.S a0_1,.L 3 (gJ a0_2)]],Tryz.f185.ntmps⟩ ?_ ?_
   ·refine gN 23 (fun c16=>?_) (fun c16=>?_) (by first | rfl | (simp only [jG,gU];rfl))
    ·replace hb15:=gX c16 hb15
     refine goL ?_
     cases hb15
     exact⟨rfl,⟨⟨rfl,rfl⟩,⟨by first | rfl | (simp only [jG,gU];rfl),rfl⟩,trivial⟩,⟨_,rfl⟩,rfl⟩
    ·replace hb15:=gY c16 hb15
     refine goL ?_
     cases hb15
     exact⟨rfl,⟨⟨rfl,rfl⟩,⟨by first | rfl | (simp only [jG,gU];rfl),rfl⟩,trivial⟩,⟨_,rfl⟩,rfl⟩
   refine goL ?_
   refine noB ?_
   refine vN 0 2 (fun z19=>?_)
   refine gD3 (fun(y18:Nat) (y17:Bool)=>⟨[(1,.ptr 0 0),(3,.B y17),(4,.N y18)],[.box [.I a0_0,.S a0_1,.L 3 (gJ a0_2)]],Tryz.f185.ntmps⟩) (fun y18 y17=>gE2 rec_l4Form (a0_2.drop y18) y17=some r) (fun y18 y17=>a0_2.length - y18) 0 b15 eJ h ?_
   rintro y18 y17 h
   refine goL ?_
   refine mO (fun c20=>?_) (fun c20=>?_)
   ·have hky182:=wE c20
    obtain⟨x21,hx21,hdx21⟩:=drop_at hky182
    rw [hdx21,gE2.eq_2] at h
    obtain⟨x21_0,x21_1,x21_2⟩:=x21
    refine noS ?_
    refine kI (jE ?_)
    refine goL ?_
    obtain⟨b22,hb22,h⟩:=gK h
    refine jU ⟨[(1,.ptr 0 0),(4,.N y18),(3,.B b22)],[.box [.I a0_0,.S a0_1,.L 3 (gJ a0_2)]],Tryz.f185.ntmps⟩ ?_ ?_
    ·refine gN 57 (fun c23=>?_) (fun c23=>?_)
     ·replace hb22:=gX c23 hb22
      refine goL ?_
      refine uD ?_
      refine jI (jJ y18 (gBb hx21)) ?_
      refine uD ?_
      obtain⟨x24,hx24,hb22⟩:=gK hb22
      refine jI (gF (hrec_l4Form (gD.mk x21_0 x21_1 x21_2) hx24)) ?_
      cases hb22
      exact eJ
     ·replace hb22:=gY c23 hb22
      refine goL ?_
      cases hb22
      exact eJ
    refine goL ?_
    refine jI (jS y18 (by omega)) ?_
    exact⟨(y18+1),b22,h,by omega,eJ⟩
   ·have hky182:=wF c20
    rw [jF hky182,gE2.eq_1] at h
    refine goX ?_
    refine jN ?_
    cases h
    exact qK
  ·refine goC h ?_ ?_<;>intro c25 h
   ·refine goL ?_
    obtain⟨b26,hb26,h⟩:=qR h
    refine jU ⟨[(1,.ptr 0 0),(3,.B b26)],[.box [.I a0_0,.S a0_1,.L 3 (gJ a0_2)]],Tryz.f185.ntmps⟩ ?_ ?_
    ·refine gN 32 (fun c27=>?_) (fun c27=>?_) (by first | rfl | (simp only [jG,gU];rfl))
     ·replace hb26:=gX c27 hb26
      refine goL ?_
      refine gN 38 (fun c28=>?_) (fun c28=>?_) (by first | rfl | (simp only [jG,gU];rfl))
      ·replace hb26:=gX c28 hb26
       refine goL ?_
       cases hb26
       exact⟨rfl,⟨⟨rfl,rfl⟩,⟨by first | rfl | (simp only [jG,gU];rfl),rfl⟩,trivial⟩,⟨_,rfl⟩,rfl⟩
      ·replace hb26:=gY c28 hb26
       refine goL ?_
       refine uD ?_
       refine jI (gF (gTf a0_1)) ?_
       refine gN 42 (fun c29=>?_) (fun c29=>?_) (by first | rfl | (simp only [jG,gU];rfl))
       ·replace hb26:=gX c29 hb26
        refine goL ?_
        cases hb26
        exact⟨rfl,⟨⟨rfl,rfl⟩,⟨by first | rfl | (simp only [jG,gU];rfl),rfl⟩,trivial⟩,⟨_,rfl⟩,rfl⟩
       ·replace hb26:=gY c29 hb26
        refine goL ?_
        cases hb26
        exact⟨rfl,⟨⟨rfl,rfl⟩,⟨by first | rfl | (simp only [jG,gU];rfl),rfl⟩,trivial⟩,⟨_,rfl⟩,rfl⟩
     ·replace hb26:=gY c27 hb26
      refine goL ?_
      refine uD ?_
      refine jI (gF (gTf a0_1)) ?_
      refine gN 42 (fun c30=>?_) (fun c30=>?_) (by first | rfl | (simp only [jG,gU];rfl))
      ·replace hb26:=gX c30 hb26
       refine goL ?_
       cases hb26
       exact⟨rfl,⟨⟨rfl,rfl⟩,⟨by first | rfl | (simp only [jG,gU];rfl),rfl⟩,trivial⟩,⟨_,rfl⟩,rfl⟩
      ·replace hb26:=gY c30 hb26
       refine goL ?_
       cases hb26
       exact⟨rfl,⟨⟨rfl,rfl⟩,⟨by first | rfl | (simp only [jG,gU];rfl),rfl⟩,trivial⟩,⟨_,rfl⟩,rfl⟩
    refine goL ?_
    refine noB ?_
    refine vN 0 2 (fun z33=>?_)
    refine gD3 (fun(y32:Nat) (y31:Bool)=>⟨[(1,.ptr 0 0),(3,.B y31),(4,.N y32)],[.box [.I a0_0,.S a0_1,.L 3 (gJ a0_2)]],Tryz.f185.ntmps⟩) (fun y32 y31=>gE3 rec_l4Form (a0_2.drop y32) y31=some r) (fun y32 y31=>a0_2.length - y32) 0 b26 eJ h ?_
    rintro y32 y31 h
    refine goL ?_
    refine mO (fun c34=>?_) (fun c34=>?_)
    ·have hky322:=wE c34
     obtain⟨x35,hx35,hdx35⟩:=drop_at hky322
     rw [hdx35,gE3.eq_2] at h
     obtain⟨x35_0,x35_1,x35_2⟩:=x35
     refine noS ?_
     refine kI (jE ?_)
     refine goL ?_
     obtain⟨b36,hb36,h⟩:=gK h
     refine jU ⟨[(1,.ptr 0 0),(4,.N y32),(3,.B b36)],[.box [.I a0_0,.S a0_1,.L 3 (gJ a0_2)]],Tryz.f185.ntmps⟩ ?_ ?_
     ·refine gN 57 (fun c37=>?_) (fun c37=>?_)
      ·replace hb36:=gX c37 hb36
       refine goL ?_
       refine uD ?_
       refine jI (jJ y32 (gBb hx35)) ?_
       refine uD ?_
       obtain⟨x38,hx38,hb36⟩:=gK hb36
       refine jI (gF (hrec_l4Form (gD.mk x35_0 x35_1 x35_2) hx38)) ?_
       cases hb36
       exact eJ
      ·replace hb36:=gY c37 hb36
       refine goL ?_
       cases hb36
       exact eJ
     refine goL ?_
     refine jI (jS y32 (by omega)) ?_
     exact⟨(y32+1),b36,h,by omega,eJ⟩
    ·have hky322:=wF c34
     rw [jF hky322,gE3.eq_1] at h
     refine goX ?_
     refine jN ?_
     cases h
     exact qK
   ·exact goR h
def gO7:Nat→gD→Option (Bool)
 | 0,_=>none
 | n+1,x0=>gO6 (gO7 n) x0
theorem gZ7:∀(n:Nat) (x0:gD) {r:Bool},gO7 n x0=some r→jB Tryz.prog 185 [.d (jP x0)] [.b r]:=by
 intro n
 induction n with
 | zero=>intro x0 r h;cases h
 | succ n ih=>intro x0 r h;exact gZ6 ih x0 h
def gMk(a0:jM):Option (Bool):=
bnd (gHv 5000 a0 (jM.mk 0 [] [] 0 (gD.mk 0 [] []) [] [])) fun x1=>
(some x1)
theorem gWr(a0:jM){r:Bool}(h:gMk a0=some r):jB Tryz.prog 167 [.d (yR a0)] [.b r]:=by
 obtain⟨a0_0,a0_1,a0_2,a0_3,⟨a0_4_0,a0_4_1,a0_4_2⟩,a0_5,a0_6⟩:=a0
 unfold gMk at h
 refine SpI Tryz.func167 fun A _=>?_
 refine goL ?_
 refine gA6 (kD TBd.h TZ.h rfl (by repeat constructor)) ?_
 obtain⟨x1,hx1,h⟩:=gK h
 refine qP (gF (gQk 5000 (jM.mk a0_0 a0_1 a0_2 a0_3 (gD.mk a0_4_0 a0_4_1 a0_4_2) a0_5 a0_6) (jM.mk 0 [] [] 0 (gD.mk 0 [] []) [] []) hx1)) ?_
 exact goR h
end Go.Proofs.YtfaplndgbgoaaaaGreatDoor
