import Derived.Test.YtfaplndgbgoaaaaGreatDoorEng38
import Derived.Test.YtfaplndgbgoaaaaGreatDoorEng67
import Derived.Test.YtfaplndgbgoaaaaGreatDoorCur
import Derived.Test.YtfaplndgbgoaaaaGreatDoorUn1
import Derived.Lib.ItoaLen
import Derived.Lib.AppendIntMem
import Derived.Lib.ItoaNum
set_option maxHeartbeats 4000000
set_option linter.unusedVariables false
set_option linter.unusedSimpArgs false
set_option linter.unusedSectionVars false
namespace Go.Proofs.YtfaplndgbgoaaaaGreatDoor
open Go Go.Eng
attribute [local irreducible] V VO VQ VY Quiet QR jB kX Rng uJ uY qW
def gRe(a0:List UInt8):Bool:=
(decide ((a0.length:Int) > 1048576))
theorem hHp(a0:List UInt8):jB Tryz.prog 4 [.L 1 (kQ a0)] [.b (gRe a0)]:=by
 obtain⟨r,h⟩:∃r,gRe a0=r:=⟨_,rfl⟩
 rw [h]
 unfold gRe at h
 refine SpI Tryz.func4 fun A _=>?_
 refine goL ?_
 refine jN ?_
 subst h
 exact qK
def gAm:List gI→(List gI)→Option (List gI)
 | [],y1=>(some y1)
 | x6::xs,y1=>gd (tok x6.type_) (lt_ (idT x6.type_) fun x8=>
gd (y1.length+[(gI.mk x6.var_ x8)].length≤4294967296) (
gAm xs (y1++[(gI.mk x6.var_ x8)])))
def gLw(a0:List gI):Option (List gI):=
gAm a0 []
theorem hBe(a0:List gI){r:List gI}(h:gLw a0=some r):jB Tryz.prog 55 [.L 4 (gQ a0)] [.sl 4 (gQ r)]:=by
 unfold gLw at h
 refine SpI Tryz.func55 fun A _=>?_
 refine goL ?_
 refine zN ?_
 refine goL ?_
 refine noB ?_
 refine gFj 0 (fun z4=>?_)
 refine kR (fun(y3:Nat) (y1:List gI) (v2:Nat)=>⟨[(0,.L 4 (gQ a0)),(3,.sl 0 v2),(4,.N y3)],[.arr 92 4 v2 (gQ y1)],Tryz.f55.ntmps⟩) (fun y3 y1 v2=>gAm (a0.drop y3) y1=some r) (fun y3 y1 v2=>a0.length - y3) 0 [] 0 eJ h ?_
 rintro y3 y1 v2 h
 refine goL ?_
 refine mO (fun c5=>?_) (fun c5=>?_)
 ·have hky32:=wE c5
  obtain⟨x6,hx6,hdx6⟩:=drop_at hky32
  rw [hdx6,gAm.eq_2] at h
  obtain⟨x6_0,⟨x6_1_0,x6_1_1,x6_1_2⟩⟩:=x6
  refine noS ?_
  refine kI (jE ?_)
  refine uX (P:=Tryz.prog) Mix.h [(0,true),(1,true),(2,true),(3,true),(4,true),(5,true),(6,true),(7,true),(8,true),(9,true),(10,true),(11,true),(12,true),(13,false),(14,false),(15,true)] (by kernel_rfl) ?_
  refine goY ?_
  refine jC rfl (jJ y3 (gLu hx6)) ?_
  refine goY ?_
  refine jC rfl (jJ y3 (gLu hx6)) ?_
  refine goY ?_
  obtain⟨g7,h⟩:=mZ h
  obtain⟨⟨x8_0,x8_1,x8_2⟩,hx8,h⟩:=qR h
  have sx8:=(yD (gD.mk x6_1_0 x6_1_1 x6_1_2) g7).p
  rw [hx8] at sx8
  refine jC rfl (gF (sx8)) ?_
  refine goY ?_
  refine pY (T:=24) (us:=gQ [(gI.mk x6_0 (gD.mk x8_0 x8_1 x8_2))]) ?_
  obtain⟨g9,h⟩:=mZ h
  refine pV (T:=24) g9 ?_
  refine goY ?_
  refine kS ?_
  refine goL ?_
  refine jI (jS y3 (by omega)) ?_
  exact⟨(y3+1),(y1++[(gI.mk x6_0 (gD.mk x8_0 x8_1 x8_2))]),(v2+1),h,by omega,eJ⟩
 ·have hky32:=wF c5
  rw [jF hky32,gAm.eq_1] at h
  refine goX ?_
  refine kK 0 rfl rfl ?_
  refine jN ?_
  cases h
  exact qK
def yS(a0:gG)(a1:Int):gG:=
(cnd (a0.code==0) (
(gG.mk a0.next a0.count a0.node a0.bindings a0.equations a0.obligations a1 a0.node)) (
a0))
theorem gH4(a0:gG)(a1:Int):jB Tryz.prog 59 [.d (mE a0),.I a1] [mE (yS a0 a1)]:=by
 obtain⟨r,h⟩:∃r,yS a0 a1=r:=⟨_,rfl⟩
 rw [h]
 obtain⟨a0_0,a0_1,a0_2,a0_3,a0_4,a0_5,a0_6,a0_7⟩:=a0
 unfold yS at h
 refine SpI Tryz.func59 fun A _=>?_
 refine goC h ?_ ?_<;>intro c1 h
 ·refine goL ?_
  refine jN ?_
  subst h
  exact qK
 ·refine goS ?_
  refine jN ?_
  subst h
  exact qK
def mM(rec_sCountTypeVariable:gD→(List UInt8)→Option (Int))(a1:List UInt8):List gD→Int→Option (Int)
 | [],y5=>(some y5)
 | x9::xs,y5=>bnd (rec_sCountTypeVariable x9 a1) fun x10=>
mM rec_sCountTypeVariable a1 xs (IntKind.i64.wrap (y5+x10))
def yK(rec_sCountTypeVariable:gD→(List UInt8)→Option (Int))(a0:gD)(a1:List UInt8):Option (Int):=
lt_ ((cnd (a0.kind==1) ((a0.name==a1)) (false))) fun b1=>
bnd ((cnd b1 (
(some 1)) (
(some 0)))) fun b3=>
mM rec_sCountTypeVariable a1 a0.args b3
theorem gIt{rec_sCountTypeVariable:gD→(List UInt8)→Option (Int)}(hrec_sCountTypeVariable:∀(x0:gD) (x1:List UInt8) {r:Int},rec_sCountTypeVariable x0 x1=some r→jB Tryz.prog 90 [.d (jP x0),.S x1] [.i .i64 r])(a0:gD)(a1:List UInt8){r:Int}(h:yK rec_sCountTypeVariable a0 a1=some r):jB Tryz.prog 90 [.d (jP a0),.S a1] [.i .i64 r]:=by
 obtain⟨a0_0,a0_1,a0_2⟩:=a0
 unfold yK at h
 refine SpI Tryz.func90 fun A _=>?_
 refine goL ?_
 obtain⟨b1,hb1,h⟩:=qR h
 refine jU ⟨[(1,.S a1),(2,.ptr 0 0),(5,.I 0),(15,.B b1)],[.box [.I a0_0,.S a0_1,.L 3 (gJ a0_2)]],Tryz.f90.ntmps⟩ ?_ ?_
 ·refine gN 10 (fun c2=>?_) (fun c2=>?_)
  ·replace hb1:=gX c2 hb1
   refine goL ?_
   cases hb1
   exact eJ
  ·replace hb1:=gY c2 hb1
   refine goL ?_
   cases hb1
   exact eJ
 refine goL ?_
 obtain⟨b3,hb3,h⟩:=gK h
 refine gD4 ⟨[(1,.S a1),(2,.ptr 0 0),(5,.I b3)],[.box [.I a0_0,.S a0_1,.L 3 (gJ a0_2)]],Tryz.f90.ntmps⟩ ?_ ?_
 ·refine mO (fun c4=>?_) (fun c4=>?_)
  ·replace hb3:=gX c4 hb3
   refine goL ?_
   cases hb3
   exact eJ
  ·replace hb3:=gY c4 hb3
   refine gAi ?_
   cases hb3
   exact eJ
 refine goL ?_
 refine noB ?_
 refine vN 0 2 (fun z7=>?_)
 refine gD3 (fun(y6:Nat) (y5:Int)=>⟨[(1,.S a1),(2,.ptr 0 0),(5,.I y5),(6,.N y6)],[.box [.I a0_0,.S a0_1,.L 3 (gJ a0_2)]],Tryz.f90.ntmps⟩) (fun y6 y5=>mM rec_sCountTypeVariable a1 (a0_2.drop y6) y5=some r) (fun y6 y5=>a0_2.length - y6) 0 b3 eJ h ?_
 rintro y6 y5 h
 refine goL ?_
 refine mO (fun c8=>?_) (fun c8=>?_)
 ·have hky62:=wE c8
  obtain⟨x9,hx9,hdx9⟩:=drop_at hky62
  rw [hdx9,mM.eq_2] at h
  obtain⟨x9_0,x9_1,x9_2⟩:=x9
  refine noS ?_
  refine kI (jE ?_)
  refine goL ?_
  refine jI (jJ y6 (gBb hx9)) ?_
  obtain⟨x10,hx10,h⟩:=gK h
  refine qP (gF (hrec_sCountTypeVariable (gD.mk x9_0 x9_1 x9_2) a1 hx10)) ?_
  refine jI (qC) ?_
  refine jI (jS y6 (by omega)) ?_
  exact⟨(y6+1),(IntKind.i64.wrap (y5+x10)),h,by omega,eJ⟩
 ·have hky62:=wF c8
  rw [jF hky62,mM.eq_1] at h
  refine goX ?_
  refine jN ?_
  cases h
  exact qK
def qJ:Nat→gD→(List UInt8)→Option (Int)
 | 0,_,_=>none
 | n+1,x0,x1=>yK (qJ n) x0 x1
theorem gIu:∀(n:Nat) (x0:gD) (x1:List UInt8) {r:Int},qJ n x0 x1=some r→jB Tryz.prog 90 [.d (jP x0),.S x1] [.i .i64 r]:=by
 intro n
 induction n with
 | zero=>intro x0 x1 r h;cases h
 | succ n ih=>intro x0 x1 r h;exact gIt ih x0 x1 h
def gDr(a0:jD)(a1:jD):Bool:=
lt_ ((cnd (a0.trait==a1.trait) ((teq a0.type_ a1.type_)) (false))) fun b1=>
b1
theorem gRf(a0:jD)(a1:jD):jB Tryz.prog 173 [.d (gAh a0),.d (gAh a1)] [.b (gDr a0 a1)]:=by
 obtain⟨r,h⟩:∃r,gDr a0 a1=r:=⟨_,rfl⟩
 rw [h]
 obtain⟨a0_0,⟨a0_1_0,a0_1_1,a0_1_2⟩⟩:=a0
 obtain⟨a1_0,⟨a1_1_0,a1_1_1,a1_1_2⟩⟩:=a1
 unfold gDr at h
 refine SpI Tryz.func173 fun A _=>?_
 refine goL ?_
 obtain⟨b1,hb1,h⟩:=qR h
 refine jU ⟨[(4,.B b1)],[.box [.S a0_0,.I a0_1_0,.S a0_1_1,.L 3 (gJ a0_1_2)],.box [.S a1_0,.I a1_1_0,.S a1_1_1,.L 3 (gJ a1_1_2)]],Tryz.f173.ntmps⟩ ?_ ?_
 ·refine gN 10 (fun c2=>?_) (fun c2=>?_)
  ·replace hb1:=gX c2 hb1
   refine goL ?_
   refine uD ?_
   refine jI (gF (gBw (gD.mk a0_1_0 a0_1_1 a0_1_2) (gD.mk a1_1_0 a1_1_1 a1_1_2))) ?_
   cases hb1
   exact eJ
  ·replace hb1:=gY c2 hb1
   refine goL ?_
   cases hb1
   exact eJ
 refine goL ?_
 refine jN ?_
 subst h
 exact qK
def gBg(rec_l24Copy:gV→Option (gV)):List gV→(List gV)→Option (List gV)
 | [],y1=>(some y1)
 | x6::xs,y1=>bnd (rec_l24Copy x6) fun x7=>
gd (y1.length+[x7].length≤4294967296) (
gBg rec_l24Copy xs (y1++[x7]))
def gJe(rec_l24Copies:(List gV)→Option (List gV))(rec_l24Copy:gV→Option (gV))(a0:List gV):Option (List gV):=
gBg rec_l24Copy a0 []
theorem gSx{rec_l24Copies:(List gV)→Option (List gV)}{rec_l24Copy:gV→Option (gV)}(hrec_l24Copies:∀(x0:List gV) {r:List gV},rec_l24Copies x0=some r→kX Tryz.prog 189 [.L 5 (qE x0)] [184] [.sl 5 (qE r)])(hrec_l24Copy:∀(x0:gV) {r:gV},rec_l24Copy x0=some r→kX Tryz.prog 174 [.d (mY x0)] [184] [mY r])(a0:List gV){r:List gV}(h:gJe rec_l24Copies rec_l24Copy a0=some r):kX Tryz.prog 189 [.L 5 (qE a0)] [184] [.sl 5 (qE r)]:=by
 unfold gJe at h
 refine qI Tryz.func189 rfl (by kernel_rfl) rfl (by simp) fun A _=>?_
 refine goL ?_
 refine gFc ?_
 refine goL ?_
 refine noB ?_
 refine gFj 0 (fun z4=>?_)
 refine kR (fun(y3:Nat) (y1:List gV) (v2:Nat)=>⟨[(0,.L 5 (qE a0)),(3,.sl 0 v2),(4,.N y3)],[.own 184 5 v2 (qE y1)],Tryz.f189.ntmps⟩) (fun y3 y1 v2=>gBg rec_l24Copy (a0.drop y3) y1=some r) (fun y3 y1 v2=>a0.length - y3) 0 [] 0 eJ h ?_
 rintro y3 y1 v2 h
 refine goL ?_
 refine mO (fun c5=>?_) (fun c5=>?_)
 ·have hky32:=wE c5
  obtain⟨x6,hx6,hdx6⟩:=drop_at hky32
  rw [hdx6,gBg.eq_2] at h
  obtain⟨x6_0,x6_1,⟨x6_2_0,x6_2_1⟩,x6_3⟩:=x6
  refine noS ?_
  refine kI (jE ?_)
  refine goL ?_
  refine jI (jJ y3 (gXl hx6)) ?_
  obtain⟨⟨x7_0,x7_1,⟨x7_2_0,x7_2_1⟩,x7_3⟩,hx7,h⟩:=gK h
  refine gJd (hrec_l24Copy (gV.mk x6_0 x6_1 (gT.mk x6_2_0 x6_2_1) x6_3) hx7) ?_
  refine gA7 (gV.mk x7_0 x7_1 (gT.mk x7_2_0 x7_2_1) x7_3) ?_
  obtain⟨g8,h⟩:=mZ h
  refine gGg g8 ?_
  refine goL ?_
  refine jI (jS y3 (by omega)) ?_
  exact⟨(y3+1),(y1++[(gV.mk x7_0 x7_1 (gT.mk x7_2_0 x7_2_1) x7_3)]),(v2+1),h,by omega,eJ⟩
 ·have hky32:=wF c5
  rw [jF hky32,gBg.eq_1] at h
  refine goX ?_
  refine jN ?_
  obtain rfl:=Option.some.inj h
  exact gPi
def gNd(rec_l24Copies:(List gV)→Option (List gV))(rec_l24Copy:gV→Option (gV))(a0:gV):Option (gV):=
bnd (rec_l24Copies a0.args) fun x1=>
(some (gV.mk a0.kind a0.n a0.at_ x1))
theorem gYj{rec_l24Copies:(List gV)→Option (List gV)}{rec_l24Copy:gV→Option (gV)}(hrec_l24Copies:∀(x0:List gV) {r:List gV},rec_l24Copies x0=some r→kX Tryz.prog 189 [.L 5 (qE x0)] [184] [.sl 5 (qE r)])(hrec_l24Copy:∀(x0:gV) {r:gV},rec_l24Copy x0=some r→kX Tryz.prog 174 [.d (mY x0)] [184] [mY r])(a0:gV){r:gV}(h:gNd rec_l24Copies rec_l24Copy a0=some r):kX Tryz.prog 174 [.d (mY a0)] [184] [mY r]:=by
 obtain⟨a0_0,a0_1,⟨a0_2_0,a0_2_1⟩,a0_3⟩:=a0
 unfold gNd at h
 refine qI Tryz.func174 rfl (by kernel_rfl) rfl (by simp) fun A _=>?_
 refine goL ?_
 obtain⟨x1,hx1,h⟩:=gK h
 refine gJd (hrec_l24Copies a0_3 hx1) ?_
 refine goL ?_
 refine jN ?_
 obtain rfl:=Option.some.inj h
 exact gPi
mutual
def gJf:Nat→(List gV)→Option (List gV)
 | 0,_=>none
 | n+1,x0=>gJe (gJf n) (gGh n) x0
def gGh:Nat→gV→Option (gV)
 | 0,_=>none
 | n+1,x0=>gNd (gJf n) (gGh n) x0
end
theorem gRg:∀(n:Nat),(∀(x0:List gV) {r:List gV},gJf n x0=some r→kX Tryz.prog 189 [.L 5 (qE x0)] [184] [.sl 5 (qE r)])∧(∀(x0:gV) {r:gV},gGh n x0=some r→kX Tryz.prog 174 [.d (mY x0)] [184] [mY r]):=by
 intro n
 induction n with
 | zero=>exact⟨(by intro x0 r h;cases h),(by intro x0 r h;cases h)⟩
 | succ n ih=>
   obtain⟨ih0,ih1⟩:=ih
   refine⟨(fun x0 r h=>gSx ih0 ih1 x0 h),(fun x0 r h=>gYj ih0 ih1 x0 h)⟩
theorem gYk:∀(n:Nat) (x0:gV) {r:gV},gGh n x0=some r→kX Tryz.prog 174 [.d (mY x0)] [184] [mY r]:=fun n=>(gRg n).2
def gAn(a1:List UInt8)(y1:Nat)(k2_0:qV × Int × Bool):List qV→qV × Int × Bool
 | []=>k2_0
 | x8::xs=>(cnd (x8.name==a1) (
(x8,(y1:Int),true)) (
gAn a1 y1 k2_0 xs ))
def yT(a1:List UInt8):List jX→Nat→qV × Int × Bool
 | [],y1=>((qV.mk [] [] false false []),0,false)
 | x4::xs,y1=>gAn a1 y1 (yT a1 xs (y1+1)) x4.traits
def vV(a0:gH)(a1:List UInt8):qV × Int × Bool:=
yT a1 a0.packages 0
theorem gH5(a0:gH)(a1:List UInt8):jB Tryz.prog 158 [.d (kT a0),.S a1] [gJ3 (vV a0 a1).1,.i .i64 (vV a0 a1).2.1,.b (vV a0 a1).2.2]:=by
 obtain⟨r,h⟩:∃r,vV a0 a1=r:=⟨_,rfl⟩
 rw [h]
 obtain⟨a0_0⟩:=a0
 unfold vV at h
 refine SpI Tryz.func158 fun A _=>?_
 refine goL ?_
 refine noB ?_
 refine vN 0 0 (fun z2=>?_)
 refine pJ (fun(y1:Nat)=>⟨[(1,.S a1),(2,.ptr 0 0),(4,.ptr 1 0),(7,.N y1)],[.box [.L 6 (kN a0_0)],.box [.S [],.nilsl,.B false,.B false,.nilsl]],Tryz.f158.ntmps⟩) (fun y1=>yT a1 (a0_0.drop y1) y1=r) (fun y1=>a0_0.length - y1) 0 eJ h ?_
 rintro y1 h
 refine goL ?_
 refine mO (fun c3=>?_) (fun c3=>?_)
 ·have hky12:=wE c3
  obtain⟨x4,hx4,hdx4⟩:=drop_at hky12
  rw [hdx4,yT.eq_2] at h
  obtain⟨x4_0,x4_1,x4_2,x4_3,x4_4,x4_5⟩:=x4
  refine noS ?_
  refine kI (jE ?_)
  refine goL ?_
  refine noB ?_
  refine pJ (fun(y5:Nat)=>⟨[(1,.S a1),(2,.ptr 0 0),(4,.ptr 1 0),(7,.N y1),(8,.N y5)],[.box [.L 6 (kN a0_0)],.box [.S [],.nilsl,.B false,.B false,.nilsl]],Tryz.f158.ntmps⟩) (fun y5=>gAn a1 y1 (yT a1 (a0_0.drop (y1+1)) (y1+1)) (x4_2.drop y5)  =r) (fun y5=>x4_2.length - y5) 0 eJ h ?_
  rintro y5 h
  refine goL ?_
  refine jI (jJ y1 (gC7 hx4)) ?_
  refine mO (fun c6=>?_) (fun c6=>?_)
  ·have hky52:=wE c6
   refine gFj 22 (fun z7=>?_)
   obtain⟨x8,hx8,hdx8⟩:=drop_at hky52
   rw [hdx8,gAn.eq_2] at h
   obtain⟨x8_0,x8_1,x8_2,x8_3,x8_4⟩:=x8
   refine noS ?_
   refine kI (jE ?_)
   refine goL ?_
   refine jI (jJ y1 (gC7 hx4)) ?_
   refine jI (jJ y5 (gTu hx8)) ?_
   refine mO (fun c9=>?_) (fun c9=>?_)
   ·replace h:=gX c9 h
    refine goL ?_
    refine jI (jJ y1 (gC7 hx4)) ?_
    refine jI (jJ y5 (gTu hx8)) ?_
    refine jN ?_
    subst h
    exact qK
   ·replace h:=gY c9 h
    refine goS ?_
    refine jI (jS y5 (by omega)) ?_
    exact⟨(y5+1),h,by omega,eJ⟩
  ·have hky52:=wF c6
   rw [jF hky52,gAn.eq_1] at h
   refine goX ?_
   refine jI (jS y1 (by omega)) ?_
   exact⟨(y1+1),h,by omega,eJ⟩
 ·have hky12:=wF c3
  rw [jF hky12,yT.eq_1] at h
  refine goX ?_
  refine gFl (kD TBd.h TZ.h rfl (by repeat constructor)) ?_
  refine jN ?_
  subst h
  exact qK
def pR(y3:Nat)(k2_0:(List gT)→Option (List gT)):List jZ→Nat→(List gT)→Option (List gT)
 | [],y9,y7=>(k2_0 y7)
 | x12::xs,y9,y7=>gd (y7.length+[(gT.mk (y3:Int) (y9:Int))].length≤4294967296) (
pR y3 k2_0 xs (y9+1) (y7++[(gT.mk (y3:Int) (y9:Int))]))
def qM:List jX→Nat→(List gT)→Option (List gT)
 | [],y3,y1=>(some y1)
 | x6::xs,y3,y1=>pR y3 (fun y7=>qM xs (y3+1) y7) x6.instances 0 y1
def gAo(a0:gH):Option (List gT):=
qM a0.packages 0 []
theorem gNe(a0:gH){r:List gT}(h:gAo a0=some r):jB Tryz.prog 197 [.d (kT a0)] [.sl 2 (mX r)]:=by
 obtain⟨a0_0⟩:=a0
 unfold gAo at h
 refine SpI Tryz.func197 fun A _=>?_
 refine goL ?_
 refine zN ?_
 refine goL ?_
 refine noB ?_
 refine vN 0 0 (fun z4=>?_)
 refine kR (fun(y3:Nat) (y1:List gT) (v2:Nat)=>⟨[(1,.ptr 0 0),(3,.sl 1 v2),(4,.N y3)],[.box [.L 6 (kN a0_0)],.arr 181 2 v2 (mX y1)],Tryz.f197.ntmps⟩) (fun y3 y1 v2=>qM (a0_0.drop y3) y3 y1=some r) (fun y3 y1 v2=>a0_0.length - y3) 0 [] 0 eJ h ?_
 rintro y3 y1 v2 h
 refine goL ?_
 refine mO (fun c5=>?_) (fun c5=>?_)
 ·have hky32:=wE c5
  obtain⟨x6,hx6,hdx6⟩:=drop_at hky32
  rw [hdx6,qM.eq_2] at h
  obtain⟨x6_0,x6_1,x6_2,x6_3,x6_4,x6_5⟩:=x6
  refine noS ?_
  refine kI (jE ?_)
  refine goL ?_
  refine noB ?_
  refine kR (fun(y9:Nat) (y7:List gT) (v8:Nat)=>⟨[(1,.ptr 0 0),(3,.sl 1 v8),(4,.N y3),(5,.N y9)],[.box [.L 6 (kN a0_0)],.arr 181 2 v8 (mX y7)],Tryz.f197.ntmps⟩) (fun y9 y7 v8=>pR y3 (fun y7=>qM (a0_0.drop (y3+1)) (y3+1) y7) (x6_4.drop y9) y9 y7=some r) (fun y9 y7 v8=>x6_4.length - y9) 0 y1 v2 eJ h ?_
  rintro y9 y7 v8 h
  refine goL ?_
  refine jI (jJ y3 (gC7 hx6)) ?_
  refine mO (fun c10=>?_) (fun c10=>?_)
  ·have hky92:=wE c10
   refine gFj 20 (fun z11=>?_)
   obtain⟨x12,hx12,hdx12⟩:=drop_at hky92
   rw [hdx12,pR.eq_2] at h
   obtain⟨x12_0,x12_1,⟨x12_2_0,x12_2_1,x12_2_2⟩,x12_3,x12_4,x12_5,⟨x12_6_0,x12_6_1,x12_6_2⟩,x12_7⟩:=x12
   refine noS ?_
   refine kI (jE ?_)
   refine goL ?_
   refine gA6 (kD TBd.h TZ.h rfl (by repeat constructor)) ?_
   refine gBc (u:=(.st [.i .i64 (y3:Int),.i .i64 (y9:Int)])) ?_
   obtain⟨g13,h⟩:=mZ h
   refine gBf g13 ?_
   refine goL ?_
   refine jI (jS y9 (by omega)) ?_
   exact⟨(y9+1),(y7++[(gT.mk (y3:Int) (y9:Int))]),(v8+1),h,by omega,eJ⟩
  ·have hky92:=wF c10
   rw [jF hky92,pR.eq_1] at h
   refine goX ?_
   refine jI (jS y3 (by omega)) ?_
   exact⟨(y3+1),y7,v8,h,by omega,eJ⟩
 ·have hky32:=wF c5
  rw [jF hky32,qM.eq_1] at h
  refine goX ?_
  refine kK 1 rfl rfl ?_
  refine jN ?_
  cases h
  exact qK
def uA(a0:gD)(a1:gD):Option (Bool):=
bnd (zV a1 a0) fun x1=>
(some x1)
theorem gD8(a0:gD)(a1:gD){r:Bool}(h:uA a0 a1=some r):jB Tryz.prog 199 [.d (jP a0),.d (jP a1)] [.b r]:=by
 obtain⟨a0_0,a0_1,a0_2⟩:=a0
 obtain⟨a1_0,a1_1,a1_2⟩:=a1
 unfold uA at h
 refine SpI Tryz.func199 fun A _=>?_
 refine goL ?_
 obtain⟨x1,hx1,h⟩:=gK h
 refine qP (gF (gN9 (gD.mk a1_0 a1_1 a1_2) (gD.mk a0_0 a0_1 a0_2) hx1)) ?_
 exact goR h
def gFe(a0:Int)(a1:Int)(a2:Int):Bool:=
lt_ ((cnd (decide (a0≥a1)) ((decide (a0≤a2))) (false))) fun b1=>
b1
theorem gLb(a0:Int)(a1:Int)(a2:Int):jB Tryz.prog 124 [.I a0,.I a1,.I a2] [.b (gFe a0 a1 a2)]:=by
 obtain⟨r,h⟩:∃r,gFe a0 a1 a2=r:=⟨_,rfl⟩
 rw [h]
 unfold gFe at h
 refine SpI Tryz.func124 fun A _=>?_
 refine goL ?_
 obtain⟨b1,hb1,h⟩:=qR h
 refine jU ⟨[(6,.B b1)],[],Tryz.f124.ntmps⟩ ?_ ?_
 ·refine gN 10 (fun c2=>?_) (fun c2=>?_)
  ·replace hb1:=gX c2 hb1
   refine goL ?_
   cases hb1
   exact eJ
  ·replace hb1:=gY c2 hb1
   refine goL ?_
   cases hb1
   exact eJ
 refine goL ?_
 refine jN ?_
 subst h
 exact qK
def gCm(c:jA)(a1:Int):Option (Bool × jA):=
bnd (yQ c a1) fun x1=>
(some ((x1.1==0),x1.2))
theorem gG1(c:jA)(a1:Int){r:Bool × jA}(h:gCm c a1=some r):Go.Eng.Spec Tryz.prog 24 [.ptr 0 0,.I a1] [.box [.L 1 (kQ c.b),.I c.i,.I c.h]] (fun sv Lo=>sv=.B r.1∧Lo=[.box [.L 1 (kQ r.2.b),.I r.2.i,.I r.2.h]]):=by
 obtain⟨c_0,c_1,c_2⟩:=c
 unfold gCm at h
 refine mP 1 Tryz.func24 rfl (by kernel_rfl) rfl rfl fun A _=>?_
 refine goL ?_
 obtain⟨⟨x1_0,⟨x1_1_0,x1_1_1,x1_1_2⟩⟩,hx1,h⟩:=gK h
 refine zI 0 (gCk (jA.mk c_0 c_1 c_2) a1 hx1) ?_
 refine goL ?_
 refine jN ?_
 obtain rfl:=Option.some.inj h
 exact gFk [.B (x1_0==0)] [.box [.L 1 (kQ x1_1_0),.I x1_1_1,.I x1_1_2]] ⟨rfl,rfl⟩
def gCx(a0:List UInt8):gD:=
(gD.mk 1 a0 [])
theorem gKw(a0:List UInt8):jB Tryz.prog 28 [.S a0] [jP (gCx a0)]:=by
 obtain⟨r,h⟩:∃r,gCx a0=r:=⟨_,rfl⟩
 rw [h]
 unfold gCx at h
 refine SpI Tryz.func28 fun A _=>?_
 refine goL ?_
 refine gFl (kD TBd.h TZ.h rfl (by repeat constructor)) ?_
 refine jN ?_
 subst h
 exact qK
def gF6(a0:List UInt8)(a1:List gD):Option (gD):=
gd (([]:List gD).length+a1.length≤4294967296) (
(some (gD.mk 2 a0 ([]++a1))))
theorem gKx(a0:List UInt8)(a1:List gD){r:gD}(h:gF6 a0 a1=some r):jB Tryz.prog 40 [.S a0,.L 3 (gJ a1)] [jP r]:=by
 unfold gF6 at h
 refine SpI Tryz.func40 fun A _=>?_
 refine goL ?_
 refine zN ?_
 refine goL ?_
 obtain⟨g1,h⟩:=mZ h
 refine gBf g1 ?_
 refine gFl (kD TBd.h TZ.h rfl (by repeat constructor)) ?_
 refine kK 1 rfl rfl ?_
 refine jN ?_
 cases h
 exact qK
def gLx(a0:List UInt8)(a1:gD):Option (gD):=
gd (tok a1) (lt_ (idT a1) fun x2=>
(some (gD.mk 3 a0 [x2])))
theorem hBf(a0:List UInt8)(a1:gD){r:gD}(h:gLx a0 a1=some r):jB Tryz.prog 41 [.S a0,.d (jP a1)] [jP r]:=by
 obtain⟨a1_0,a1_1,a1_2⟩:=a1
 unfold gLx at h
 refine SpI Tryz.func41 fun A _=>?_
 refine goL ?_
 obtain⟨g1,h⟩:=mZ h
 obtain⟨⟨x2_0,x2_1,x2_2⟩,hx2,h⟩:=qR h
 have sx2:=(yD (gD.mk a1_0 a1_1 a1_2) g1).p
 rw [hx2] at sx2
 refine qP (gF (sx2)) ?_
 refine gBc (u:=(.st [.i .i64 x2_0,.s x2_1,.sl 3 (gJ x2_2)])) ?_
 refine gFl (kD TBd.h TZ.h rfl (by repeat constructor)) ?_
 refine kK 2 rfl rfl ?_
 refine jN ?_
 cases h
 exact qK
def gGi(c:jA)(a1:List gD):Option (gD × jA):=
bnd (yQ c (a1.length:Int)) fun x1=>
bnd (at? a1 x1.1) fun x2=>
(some (x2,x1.2))
theorem gVp(c:jA)(a1:List gD){r:gD × jA}(h:gGi c a1=some r):Go.Eng.Spec Tryz.prog 42 [.ptr 0 0,.L 3 (gJ a1)] [.box [.L 1 (kQ c.b),.I c.i,.I c.h]] (fun sv Lo=>sv=.d (jP r.1)∧Lo=[.box [.L 1 (kQ r.2.b),.I r.2.i,.I r.2.h]]):=by
 obtain⟨c_0,c_1,c_2⟩:=c
 unfold gGi at h
 refine mP 1 Tryz.func42 rfl (by kernel_rfl) rfl rfl fun A _=>?_
 refine goL ?_
 obtain⟨⟨x1_0,⟨x1_1_0,x1_1_1,x1_1_2⟩⟩,hx1,h⟩:=gK h
 refine zI 0 (gCk (jA.mk c_0 c_1 c_2) (a1.length:Int) hx1) ?_
 obtain⟨x2,hx2,h⟩:=gK h
 obtain⟨hx20,hx2⟩:=gD6 hx2
 obtain⟨x2_0,x2_1,x2_2⟩:=x2
 refine jI (qU hx20 (gBb hx2)) ?_
 refine jN ?_
 obtain rfl:=Option.some.inj h
 exact gFk [.d (.st [.i .i64 x2_0,.s x2_1,.sl 3 (gJ x2_2)])] [.box [.L 1 (kQ x1_1_0),.I x1_1_1,.I x1_1_2]] ⟨rfl,rfl⟩
def mR(a0:List UInt8)(a1:Int):Nat→(List (List UInt8))→Int→Int→Option (List (List UInt8))
 | 0,y1,y3,y4=>none
 | n5+1,y1,y3,y4=>(cnd (decide (y4≤(a0.length:Int))) (
bnd ((cnd (y4==(a0.length:Int)) ((some true)) (bnd (at? a0 y4) fun x9=>
(some ((x9.toNat:Int)==a1))))) fun b7=>
(cnd b7 (
gd (0≤y3∧y3≤y4∧y4≤(a0.length:Int)) (
gd (y1.length+[((a0.drop (Int.toNat y3)).take (Int.toNat y4 - Int.toNat y3))].length≤4294967296) (
mR a0 a1 n5 (y1++[((a0.drop (Int.toNat y3)).take (Int.toNat y4 - Int.toNat y3))]) (IntKind.i64.wrap (y4+1)) (IntKind.i64.wrap (y4+1))))) (
mR a0 a1 n5 y1 y3 (IntKind.i64.wrap (y4+1))))) (
(some y1)))
def gDs(a0:List UInt8)(a1:Int)(n0:Nat):Option (List (List UInt8)):=
mR a0 a1 n0 [] 0 0
theorem gRh(a0:List UInt8)(a1:Int){n0:Nat}{r:List (List UInt8)}(h:gDs a0 a1 n0=some r):jB Tryz.prog 44 [.S a0,.d (.i .u8 a1)] [.sl 1 (gZ r)]:=by
 unfold gDs at h
 refine SpI Tryz.func44 fun A _=>?_
 refine goL ?_
 refine gFc ?_
 refine goL ?_
 refine noB ?_
 refine gSn (fun(n5:Nat) (y1:List (List UInt8)) (y3:Int) (y4:Int) (v2:Nat)=>⟨[(0,.S a0),(1,.d (.i .u8 a1)),(5,.sl 0 v2),(6,.I y3),(7,.I y4)],[.own 9 1 v2 (gZ y1)],Tryz.f44.ntmps⟩) (fun n5 y1 y3 y4 v2=>mR a0 a1 n5 y1 y3 y4=some r) (fun n5 y1 y3 y4 v2=>n5) n0 [] 0 0 0 eJ h ?_
 rintro n5 y1 y3 y4 v2 h
 rcases n5 with _ | n5
 ·cases h
 rw [mR.eq_2] at h
 refine goC h ?_ ?_<;>intro c6 h
 ·refine noS ?_
  refine kI (jE ?_)
  refine goL ?_
  obtain⟨b7,hb7,h⟩:=gK h
  refine jU ⟨[(0,.S a0),(1,.d (.i .u8 a1)),(5,.sl 0 v2),(6,.I y3),(7,.I y4),(25,.B b7)],[.own 9 1 v2 (gZ y1)],Tryz.f44.ntmps⟩ ?_ ?_
  ·refine gN 19 (fun c8=>?_) (fun c8=>?_)
   ·replace hb7:=gX c8 hb7
    refine goL ?_
    cases hb7
    exact eJ
   ·replace hb7:=gY c8 hb7
    refine goL ?_
    refine uD ?_
    obtain⟨x9,hx9,hb7⟩:=gK hb7
    obtain⟨hx90,hx9⟩:=gD6 hx9
    refine jI (gGe hx90 hx9) ?_
    cases hb7
    exact eJ
  refine goC h ?_ ?_<;>intro c10 h
  ·refine goL ?_
   obtain⟨g11,h⟩:=mZ h
   refine qP (hCq g11) ?_
   refine gA7 ((a0.drop (Int.toNat y3)).take (Int.toNat y4 - Int.toNat y3)) ?_
   obtain⟨g12,h⟩:=mZ h
   refine gGg g12 ?_
   refine goL ?_
   refine jI (qC) ?_
   refine jI (qC) ?_
   exact⟨n5,(y1++[((a0.drop (Int.toNat y3)).take (Int.toNat y4 - Int.toNat y3))]),(IntKind.i64.wrap (y4+1)),(IntKind.i64.wrap (y4+1)),(v2+1),h,Nat.lt_succ_self _,eJ⟩
  ·refine goS ?_
   refine jI (qC) ?_
   exact⟨n5,y1,y3,(IntKind.i64.wrap (y4+1)),v2,h,Nat.lt_succ_self _,eJ⟩
 ·refine goX ?_
  refine wL 0 rfl rfl ?_
  refine jN ?_
  cases h
  exact qK
def gCy(x0:List UInt8)(x1:Int):Option (List (List UInt8)):=gDs x0 x1 5000
def gCn:List UInt8→Bool
 | []=>true
 | x4::xs=>(cnd ((x4.toNat:Int) != 32) (
false) (
gCn xs ))
def gEn(a0:List UInt8):Bool:=
gCn a0
theorem gVq(a0:List UInt8):jB Tryz.prog 45 [.S a0] [.b (gEn a0)]:=by
 obtain⟨r,h⟩:∃r,gEn a0=r:=⟨_,rfl⟩
 rw [h]
 unfold gEn at h
 refine SpI Tryz.func45 fun A _=>?_
 refine goL ?_
 refine noB ?_
 refine gXm 0 (fun z2=>?_)
 refine pJ (fun(y1:Nat)=>⟨[(0,.S a0),(3,.N y1)],[],Tryz.f45.ntmps⟩) (fun y1=>gCn (a0.drop y1)  =r) (fun y1=>a0.length - y1) 0 eJ h ?_
 rintro y1 h
 refine goL ?_
 refine mO (fun c3=>?_) (fun c3=>?_)
 ·have hky12:=hFr c3
  obtain⟨x4,hx4,hdx4⟩:=drop_at hky12
  rw [hdx4,gCn.eq_2] at h
  refine noS ?_
  refine kI (jE ?_)
  refine goL ?_
  refine jI (gD2 y1 hx4) ?_
  refine mO (fun c5=>?_) (fun c5=>?_)
  ·replace h:=gX c5 h
   refine goL ?_
   refine jN ?_
   subst h
   exact qK
  ·replace h:=gY c5 h
   refine goS ?_
   refine jI (jS y1 (by omega)) ?_
   exact⟨(y1+1),h,by omega,eJ⟩
 ·have hky12:=hFs c3
  rw [jF hky12,gCn.eq_1] at h
  refine goX ?_
  refine jN ?_
  subst h
  exact qK
def yC(c:uE):Nat→Int→Option (uE)
 | 0,y1=>none
 | n2+1,y1=>bnd ((cnd (decide (y1 < (c.s.length:Int))) (bnd (at? c.s y1) fun x5=>
(cnd ((x5.toNat:Int)==32) ((some true)) ((some ((x5.toNat:Int)==10))))) ((some false)))) fun b3=>
(cnd b3 (
yC c n2 (IntKind.i64.wrap (y1+1))) (
(some (uE.mk c.s y1 c.deep c.size c.bad))))
def gPs(c:uE)(n0:Nat):Option (uE):=
yC c n0 c.at_
theorem gPt(c:uE){n0:Nat}{r:uE}(h:gPs c n0=some r):Go.Eng.Spec Tryz.prog 77 [.ptr 0 0] [.box [.S c.s,.I c.at_,.I c.deep,.I c.size,.B c.bad]] (fun sv Lo=>sv=.tup []∧Lo=[.box [.S r.s,.I r.at_,.I r.deep,.I r.size,.B r.bad]]):=by
 obtain⟨c_0,c_1,c_2,c_3,c_4⟩:=c
 unfold gPs at h
 refine mP 1 Tryz.func77 rfl (by kernel_rfl) rfl rfl fun A _=>?_
 refine noB ?_
 refine gD3 (fun(n2:Nat) (y1:Int)=>⟨[(0,.ptr 0 0)],[.box [.S c_0,.I y1,.I c_2,.I c_3,.B c_4]],Tryz.f77.ntmps⟩) (fun n2 y1=>yC (uE.mk c_0 c_1 c_2 c_3 c_4) n2 y1=some r) (fun n2 y1=>n2) n0 c_1 eJ h ?_
 rintro n2 y1 h
 rcases n2 with _ | n2
 ·cases h
 rw [yC.eq_2] at h
 refine gHk ?_
 obtain⟨b3,hb3,h⟩:=gK h
 refine qZ (P:=Tryz.prog) Mix.h ⟨[(0,.ptr 0 0),(35,.B b3)],[.box [.S c_0,.I y1,.I c_2,.I c_3,.B c_4]],Tryz.f77.ntmps⟩ (by kernel_rfl) ?_ ?_
 ·refine goL ?_
  refine vR 12 (fun c4=>?_) (fun c4=>?_)
  ·replace hb3:=gX c4 hb3
   refine goL ?_
   obtain⟨x5,hx5,hb3⟩:=gK hb3
   obtain⟨hx50,hx5⟩:=gD6 hx5
   refine gBe (gGe hx50 hx5) ?_
   refine goL ?_
   refine vR 23 (fun c6=>?_) (fun c6=>?_)
   ·replace hb3:=gX c6 hb3
    refine goL ?_
    cases hb3
    exact eJ
   ·replace hb3:=gY c6 hb3
    refine goL ?_
    refine gBe (gGe hx50 hx5) ?_
    refine goL ?_
    cases hb3
    exact eJ
  ·replace hb3:=gY c4 hb3
   refine goL ?_
   cases hb3
   exact eJ
 refine goC h ?_ ?_<;>intro c7 h
 ·refine noS ?_
  refine jE ?_
  refine goL ?_
  refine jI (qC) ?_
  exact⟨n2,(IntKind.i64.wrap (y1+1)),h,Nat.lt_succ_self _,eJ⟩
 ·refine gQz ?_
  show qW _ _ _ _ _ _
  obtain rfl:=Option.some.inj h
  exact hKe [] [.box [.S c_0,.I y1,.I c_2,.I c_3,.B c_4]] ⟨rfl,rfl⟩
def gKy(x0:uE):Option (uE):=gPs x0 5000
end Go.Proofs.YtfaplndgbgoaaaaGreatDoor
set_option linter.unusedVariables false
set_option linter.unusedSimpArgs false
namespace Go.Proofs.YtfaplndgbgoaaaaGreatDoor
open Go Go.Eng Go.RowKit
attribute [local irreducible] V VO VQ VY Quiet QR jB kX Rng uJ uY qW
instance (n:Int):Decidable (zH n):=inferInstanceAs (Decidable (_∧_))
def dgs(u:Nat):List UInt8:=if u=0 then [] else Lib.decDigits u
theorem hBh{u:Nat}(h:u≠0):dgs u=dgs (u / 10)++[UInt8.ofNat (48+u % 10)]:=by
 unfold dgs
 rw [if_neg h,Lib.decDigits]
 by_cases h1:u < 10
 ·rw [dif_pos h1,if_pos (by omega),Nat.mod_eq_of_lt h1];rfl
 ·rw [dif_neg h1,if_neg (by omega)]
theorem hEu{n:Int}(h:zH n):(dgs n.natAbs).length≤21:=by
 unfold dgs
 split
 ·simp
 ·have:=Lib.itoa_length_le n h.1 h.2
  unfold Lib.itoa at this
  split at this
  ·simp at this;omega
  ·have e:n.natAbs=n.toNat:=by omega
   rw [e];exact this
theorem itoa_neg{n:Int}(h:n < 0):Lib.itoa n=45::dgs n.natAbs:=by unfold Lib.itoa dgs;rw [if_pos h,if_neg (by omega)]
theorem hBi{n:Int}(h:0 < n):Lib.itoa n=dgs n.natAbs:=by unfold Lib.itoa dgs;rw [if_neg (by omega),if_neg (by omega)];congr 1;omega
theorem gYl:Lib.itoa 0=[48]:=by unfold Lib.itoa;rw [if_neg (by omega),Lib.decDigits];rfl
theorem gYm{m:Int}(h:m.tmod 10 < 0):IntKind.i64.wrap (0 - m.tmod 10)=((m.natAbs % 10:Nat):Int):=by
 have e:m.tmod 10= -((m.natAbs % 10:Nat):Int):=by
  rcases Int.natAbs_eq m with h1 | h1
  ·rw [h1] at h
   have:=Int.tmod_nonneg (a:=(m.natAbs:Int)) 10 (by omega)
   omega
  ·conv=>lhs;rw [h1]
   rw [Int.neg_tmod]
   have:((m.natAbs:Int)).tmod 10=((m.natAbs % 10:Nat):Int):=by rw [show (10:Int)=((10:Nat):Int)from rfl,←Int.ofNat_tmod];
   rw [this]
 rw [e,wP _ (by omega) (by omega)]
 omega
theorem gYn{m:Int}(h:¬m.tmod 10 < 0):m.tmod 10=((m.natAbs % 10:Nat):Int):=by
 have key:((m.natAbs:Int)).tmod 10=((m.natAbs % 10:Nat):Int):=by rw [show (10:Int)=((10:Nat):Int)from rfl,←Int.ofNat_tmod]
 rcases Int.natAbs_eq m with h1 | h1
 ·conv=>lhs;rw [h1]
  exact key
 ·have e:m.tmod 10= -((m.natAbs % 10:Nat):Int):=by
   conv=>lhs;rw [h1]
   rw [Int.neg_tmod,key]
  omega
theorem gPu(m:Int):(m.tdiv 10).natAbs=m.natAbs / 10:=by simp [Int.natAbs_tdiv];rfl
theorem gKa{m:Int}(h:zH m):zH (m.tdiv 10)∧IntKind.i64.wrap (m.tdiv 10)=m.tdiv 10:=by
 have:=gPu m
 have hr:zH (m.tdiv 10):=by
  obtain⟨h1,h2⟩:=h
  unfold zH
  omega
 exact⟨hr,wP _ hr.1 hr.2⟩
theorem byte_of(u:Nat):UInt8.ofNat (IntKind.u8.wrap (IntKind.i64.wrap (48+((u % 10:Nat):Int)))).toNat=UInt8.ofNat (48+u % 10):=by
 have:u % 10 < 10:=Nat.mod_lt _ (by decide)
 generalize u % 10=k at this
 match k,this with
 | 0,_ | 1,_ | 2,_ | 3,_ | 4,_ | 5,_ | 6,_ | 7,_ | 8,_ | 9,_=>rfl
theorem round_eq{n m:Int}{out:List UInt8}(hm:m≠0)(h:dgs n.natAbs=dgs m.natAbs++out):dgs n.natAbs=dgs (m.tdiv 10).natAbs++([UInt8.ofNat (48+m.natAbs % 10)]++out):=by
 rw [h,hBh (u:=m.natAbs) (by omega),gPu,List.append_assoc]
set_option maxHeartbeats 4000000 in
theorem gH6(n:Int)(hn:zH n):jB Tryz.prog 39 [.d (.i .i64 n)] [.s (Lib.itoa n)]:=by
 refine gM8 Tryz.func39 rfl (by kernel_rfl) rfl fun A _=>?_
 refine goL ?_
 refine mO (fun c1=>?_) (fun c1=>?_)
 ·have:n=0:=by simpa using c1
  subst this
  rw [gYl]
  refine goL ?_
  refine jN ?_
  exact qK
 refine gAi ?_
 show V _ _ _ _ _
 have hn0:n≠0:=by simpa using c1
 refine goL ?_
 refine kI (jE ?_)
 refine pJ (fun(x:Int × List UInt8)=>⟨[(0,.d (.i .i64 x.1)),(2,.d (.s [])),(3,.d (.b (decide (n < 0)))),(4,.d (.s x.2))],[],Tryz.f39.ntmps⟩) (fun x=>zH x.1∧dgs n.natAbs=dgs x.1.natAbs++x.2) (fun x=>x.1.natAbs) (n,[]) ⟨rfl,⟨⟨rfl,rfl⟩,⟨rfl,rfl⟩,⟨rfl,rfl⟩,⟨rfl,rfl⟩,trivial⟩,⟨_,rfl⟩,rfl⟩ ⟨hn,by simp⟩ ?_
 rintro⟨m,out⟩ ⟨hr,hd⟩
 have hl:=hEu hn
 have hol:out.length≤21:=by rw [hd] at hl;simp at hl;omega
 dsimp only
 refine goL ?_
 refine mO (fun c2=>?_) (fun c2=>?_)
 ·have hm:m≠0:=by simpa using c2
  refine gAi ?_
  show V _ _ _ _ _
  refine jE ?_
  refine goL ?_
  refine gA6 hGt ?_
  refine goL ?_
  refine mO (fun c3=>?_) (fun c3=>?_)
  ·have hd3:=gYm (of_decide_eq_true c3)
   refine goL ?_
   refine qP qC ?_
   rw [hd3]
   refine goL ?_
   refine qP qC ?_
   refine goL ?_
   refine gA6 (gSh rfl Tryz.underlying3 Tryz.underlying5) ?_
   refine goL ?_
   refine hGp (u:=.i .u8 _) ?_
   refine gA6 (gTr rfl rfl Tryz.underlying22 Tryz.underlying5 Tryz.underlying9) ?_
   rw [byte_of]
   refine goL ?_
   refine qP (vB (a:=[_]) (b:=out) (by simp;omega)) ?_
   refine goL ?_
   refine gA6 (hCl (gKa hr).2) ?_
   refine goL ?_
   exact⟨(m.tdiv 10,_),⟨(gKa hr).1,round_eq hm hd⟩,by have:=gPu m;simp only;omega,⟨rfl,⟨⟨rfl,rfl⟩,⟨rfl,rfl⟩,⟨rfl,rfl⟩,⟨rfl,rfl⟩,trivial⟩,⟨_,rfl⟩,rfl⟩⟩
  ·have hd3:=gYn (of_decide_eq_false c3)
   refine gAi ?_
   show V _ _ _ _ _
   refine goL ?_
   rw [hd3]
   refine qP qC ?_
   refine goL ?_
   refine gA6 (gSh rfl Tryz.underlying3 Tryz.underlying5) ?_
   refine goL ?_
   refine hGp (u:=.i .u8 _) ?_
   refine gA6 (gTr rfl rfl Tryz.underlying22 Tryz.underlying5 Tryz.underlying9) ?_
   rw [byte_of]
   refine goL ?_
   refine qP (vB (a:=[_]) (b:=out) (by simp;omega)) ?_
   refine goL ?_
   refine gA6 (hCl (gKa hr).2) ?_
   refine goL ?_
   exact⟨(m.tdiv 10,_),⟨(gKa hr).1,round_eq hm hd⟩,by have:=gPu m;simp only;omega,⟨rfl,⟨⟨rfl,rfl⟩,⟨rfl,rfl⟩,⟨rfl,rfl⟩,⟨rfl,rfl⟩,trivial⟩,⟨_,rfl⟩,rfl⟩⟩
 ·have hm:m=0:=by simpa using c2
  subst hm
  refine gQz ?_
  show V _ _ _ _ _
  refine goL ?_
  simp [dgs] at hd
  refine mO (fun c3=>?_) (fun c3=>?_)
  ·have h0:=of_decide_eq_true c3
   rw [itoa_neg h0,show dgs n.natAbs=out by simp [dgs,hd]]
   refine goL ?_
   refine qP (vB (a:=[45]) (b:=out) (by simp;omega)) ?_
   refine goL ?_
   refine jN ?_
   exact qK
  ·have h0:=of_decide_eq_false c3
   rw [hBi (by omega),show dgs n.natAbs=out by simp [dgs,hd]]
   refine gAi ?_
   show V _ _ _ _ _
   refine goL ?_
   refine jN ?_
   exact qK
end Go.Proofs.YtfaplndgbgoaaaaGreatDoor
set_option maxHeartbeats 4000000
set_option linter.unusedVariables false
set_option linter.unusedSimpArgs false
set_option linter.unusedSectionVars false
namespace Go.Proofs.YtfaplndgbgoaaaaGreatDoor
open Go Go.Eng
attribute [local irreducible] V VO VQ VY Quiet QR jB kX Rng uJ uY qW
end Go.Proofs.YtfaplndgbgoaaaaGreatDoor
