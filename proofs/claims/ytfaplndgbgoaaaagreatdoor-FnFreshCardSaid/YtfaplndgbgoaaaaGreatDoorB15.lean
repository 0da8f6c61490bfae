import Derived.Test.YtfaplndgbgoaaaaGreatDoorEng38
import Derived.Test.YtfaplndgbgoaaaaGreatDoorEng67
import Derived.Test.YtfaplndgbgoaaaaGreatDoorZz
import Derived.Test.YtfaplndgbgoaaaaGreatDoorVr
import Derived.Test.YtfaplndgbgoaaaaGreatDoorB14
import Derived.Test.YtfaplndgbgoaaaaGreatDoorB11
import Derived.Test.YtfaplndgbgoaaaaGreatDoorB12
import Derived.Test.YtfaplndgbgoaaaaGreatDoorB13
import Derived.Test.YtfaplndgbgoaaaaGreatDoorB3
import Derived.Test.YtfaplndgbgoaaaaGreatDoorB4
import Derived.Test.YtfaplndgbgoaaaaGreatDoorB5
import Derived.Test.YtfaplndgbgoaaaaGreatDoorB9
import Derived.Test.YtfaplndgbgoaaaaGreatDoorUn1
set_option maxHeartbeats 4000000
set_option linter.unusedVariables false
set_option linter.unusedSimpArgs false
set_option linter.unusedSectionVars false
namespace Go.Proofs.YtfaplndgbgoaaaaGreatDoor
open Go Go.Eng
attribute [local irreducible] V VO VQ VY Quiet QR jB kX Rng uJ uY qW
def wI(a1:(List UInt8)→Option Bool):List (List UInt8)→Nat→Option (Int)
 | [],y1=>(some (-1))
 | x4::xs,y1=>bnd (a1 x4) fun x5=>
(cnd x5 (
(some (y1:Int))) (
wI a1 xs (y1+1)))
def gFp(a0:List (List UInt8))(a1:(List UInt8)→Option Bool):Option (Int):=
wI a1 a0 0
theorem gQf(a0:List (List UInt8)){a1f:Nat}{a1c:List SV}{a1:(List UInt8)→Option Bool}(a1_lt:∀n,SV.lts n a1c=true)(ha1:∀(x0:List UInt8) (r:Bool),a1 x0=some r→jB Tryz.prog a1f ([.S x0]++a1c) [.b r]){r:Int}(h:gFp a0 a1=some r):jB Tryz.prog 32 [.L 1 (gZ a0),.fn a1f a1c] [.i .i64 r]:=by
 unfold gFp at h
 refine SpI Tryz.func32 fun A _=>?_
 refine goL ?_
 refine noB ?_
 refine gFj 0 (fun z2=>?_)
 refine pJ (fun(y1:Nat)=>⟨[(0,.L 1 (gZ a0)),(1,.fn a1f a1c),(7,.I (a0.length:Int)),(8,.N y1)],[],Tryz.f32.ntmps⟩) (fun y1=>wI a1 (a0.drop y1) y1=some r) (fun y1=>a0.length - y1) 0 ⟨rfl,⟨⟨rfl,rfl⟩,⟨rfl,a1_lt _⟩,⟨rfl,rfl⟩,⟨rfl,rfl⟩,trivial⟩,⟨[],rfl⟩,rfl⟩ h ?_
 rintro y1 h
 refine goL ?_
 refine kI (mO (fun c3=>?_) (fun c3=>?_))
 ·have hky12:=wE c3
  obtain⟨x4,hx4,hdx4⟩:=drop_at hky12
  rw [hdx4,wI.eq_2] at h
  refine noS ?_
  refine kI (jE ?_)
  refine goL ?_
  refine jI (jJ y1 (gOe hx4)) ?_
  obtain⟨x5,hx5,h⟩:=gK h
  refine jI (hAo (ha1 _ _ hx5) (a1_lt 0)) ?_
  refine mO (fun c6=>?_) (fun c6=>?_)
  ·replace h:=gX c6 h
   exact goR h
  ·replace h:=gY c6 h
   refine goS ?_
   refine jI (jS y1 (by omega)) ?_
   exact⟨(y1+1),h,by omega,⟨rfl,⟨⟨rfl,rfl⟩,⟨rfl,a1_lt _⟩,⟨rfl,rfl⟩,⟨rfl,rfl⟩,trivial⟩,⟨_,rfl⟩,rfl⟩⟩
 ·have hky12:=wF c3
  rw [jF hky12,wI.eq_1] at h
  refine goX ?_
  refine jN ?_
  cases h
  exact qK
def gAc(a0:List (List UInt8))(a1:(List UInt8)→Option Bool):Option (Bool):=
bnd (gFp a0 a1) fun x1=>
(some (decide (x1≥0)))
theorem gL8(a0:List (List UInt8)){a1f:Nat}{a1c:List SV}{a1:(List UInt8)→Option Bool}(a1_lt:∀n,SV.lts n a1c=true)(ha1:∀(x0:List UInt8) (r:Bool),a1 x0=some r→jB Tryz.prog a1f ([.S x0]++a1c) [.b r]){r:Bool}(h:gAc a0 a1=some r):jB Tryz.prog 16 [.L 1 (gZ a0),.fn a1f a1c] [.b r]:=by
 unfold gAc at h
 refine SpI Tryz.func16 fun A _=>?_
 refine goL ?_
 obtain⟨x1,hx1,h⟩:=gK h
 refine qP (gF (gQf a0 (a1:=a1) a1_lt ha1 hx1)) ?_
 exact goR h
def gN6(a0:gD):Option (Bool):=
bnd (gAr a0) fun x1=>
bnd (gAc x1 gA5) fun x2=>
(some x2)
theorem hCe(a0:gD){r:Bool}(h:gN6 a0=some r):jB Tryz.prog 7 [.d (jP a0)] [.b r]:=by
 obtain⟨a0_0,a0_1,a0_2⟩:=a0
 unfold gN6 at h
 refine SpI Tryz.func7 fun A _=>?_
 refine goL ?_
 obtain⟨x1,hx1,h⟩:=gK h
 refine qP (gF ((gNo (gD.mk a0_0 a0_1 a0_2) hx1).p)) ?_
 obtain⟨x2,hx2,h⟩:=gK h
 refine qP (gF (gL8 x1 (a1:=gA5) (fun _=>rfl) (fun x0 r hr=>gQb x0 hr) hx2)) ?_
 exact goR h
def gDd(rec_sHIV:gD→Option (Bool))(a0:gD):List gD→Option (Bool)
 | []=>bnd (gDw a0) fun x7=>
(some x7)
 | x4::xs=>bnd (rec_sHIV x4) fun x5=>
(cnd x5 (
(some true)) (
gDd rec_sHIV a0 xs ))
def gTb(rec_sHIV:gD→Option (Bool))(a0:gD):Option (Bool):=
gDd rec_sHIV a0 a0.args
theorem hF4{rec_sHIV:gD→Option (Bool)}(hrec_sHIV:∀(x0:gD) {r:Bool},rec_sHIV x0=some r→jB Tryz.prog 63 [.d (jP x0)] [.b r])(a0:gD){r:Bool}(h:gTb rec_sHIV a0=some r):jB Tryz.prog 63 [.d (jP a0)] [.b r]:=by
 obtain⟨a0_0,a0_1,a0_2⟩:=a0
 unfold gTb at h
 refine SpI Tryz.func63 fun A _=>?_
 refine goL ?_
 refine noB ?_
 refine vN 0 2 (fun z2=>?_)
 refine pJ (fun(y1:Nat)=>⟨[(1,.ptr 0 0),(3,.N y1)],[.box [.I a0_0,.S a0_1,.L 3 (gJ a0_2)]],Tryz.f63.ntmps⟩) (fun y1=>gDd rec_sHIV (gD.mk a0_0 a0_1 a0_2) (a0_2.drop y1)  =some r) (fun y1=>a0_2.length - y1) 0 eJ h ?_
 rintro y1 h
 refine goL ?_
 refine mO (fun c3=>?_) (fun c3=>?_)
 ·have hky12:=wE c3
  obtain⟨x4,hx4,hdx4⟩:=drop_at hky12
  rw [hdx4,gDd.eq_2] at h
  obtain⟨x4_0,x4_1,x4_2⟩:=x4
  refine noS ?_
  refine kI (jE ?_)
  refine goL ?_
  refine jI (jJ y1 (gBb hx4)) ?_
  obtain⟨x5,hx5,h⟩:=gK h
  refine jI (gF (hrec_sHIV (gD.mk x4_0 x4_1 x4_2) hx5)) ?_
  refine mO (fun c6=>?_) (fun c6=>?_)
  ·replace h:=gX c6 h
   exact goR h
  ·replace h:=gY c6 h
   refine goS ?_
   refine jI (jS y1 (by omega)) ?_
   exact⟨(y1+1),h,by omega,eJ⟩
 ·have hky12:=wF c3
  rw [jF hky12,gDd.eq_1] at h
  refine goX ?_
  obtain⟨x7,hx7,h⟩:=gK h
  refine qP (gF (gKe (gD.mk a0_0 a0_1 a0_2) hx7)) ?_
  exact goR h
def gN7:Nat→gD→Option (Bool)
 | 0,_=>none
 | n+1,x0=>gTb (gN7 n) x0
theorem hF5:∀(n:Nat) (x0:gD) {r:Bool},gN7 n x0=some r→jB Tryz.prog 63 [.d (jP x0)] [.b r]:=by
 intro n
 induction n with
 | zero=>intro x0 r h;cases h
 | succ n ih=>intro x0 r h;exact hF4 ih x0 h
def gLj(t:gD):Bool:=gR4 isInf t
theorem gHb{p:List UInt8→Option Bool}{q:List UInt8→Bool}(hp:∀x,p x=some (q x)):∀(l:List (List UInt8)) (k:Nat),∃i,wI p l k=some i∧(0≤i↔l.any q=true)
 | [],k=>⟨-1,rfl,by simp⟩
 | x::l,k=>by
   obtain⟨i,h1,h2⟩:=gHb hp l (k+1)
   simp only [wI,hp,bnd]
   cases hq:q x with
   | true=>exact⟨k,by simp [cnd],by simp [hq]⟩
   | false=>exact⟨i,by simpa [cnd] using h1,by simpa [hq] using h2⟩
theorem gLd{p:List UInt8→Option Bool}{q:List UInt8→Bool}(hp:∀x,p x=some (q x))(l:List (List UInt8)):gAc l p=some (l.any q):=by
 obtain⟨i,h1,h2⟩:=gHb hp l 0
 unfold gAc gFp
 rw [h1]
 simp only [bnd,Option.some.injEq]
 cases h:l.any q with
 | true=>exact decide_eq_true (h2.2 h)
 | false=>exact decide_eq_false (fun hi=>by rw [h2.1 hi] at h;cases h)
theorem gWb(t:gD)(h:tnd t≤4294967296):gN6 t=some (gLj t):=by
 unfold gN6
 rw [gLh t h]
 simp only [bnd]
 rw [gLd gN3,gR1]
 simp [gLj]
theorem gN8{n:Nat}{t:gD}:∀(xs:List gD),(∀x∈xs,gN7 n x=some (gLj x))→gDd (gN7 n) t xs=some (((t.kind==1) && isInf t.name) || gFm isInf xs)
 | [],_=>by simp only [gDd,gIq,bnd,gFm,Bool.or_false]
 | x::xs,h=>by
   simp only [gDd,gFm]
   rw [h x (by simp)]
   simp only [bnd]
   show cnd (gR4 isInf x) _ _=_
   cases hx:gR4 isInf x with
   | true=>simp [cnd]
   | false=>
     rw [gP,gN8 xs (fun y hy=>h y (by simp [hy]))]
     simp
theorem gWc:∀(n:Nat) (t:gD),tnd t≤n→gN7 n t=some (gLj t)
 | 0,t,h=>by have:=gD5 t;omega
 | n+1,⟨k,s,ts⟩,h=>by
   simp only [tnd] at h
   rw [gN7.eq_2]
   unfold gTb
   simp only []
   rw [gN8 ts (fun x hx=>gWc n x (by have:=gCo hx;omega))]
   rfl
theorem gTc(x0:gD):jB Tryz.prog 63 [.d (jP x0)] [.b (gLj x0)]:=hF5 (tnd x0) x0 (gWc _ _ (Nat.le_refl _))
end Go.Proofs.YtfaplndgbgoaaaaGreatDoor
set_option maxHeartbeats 4000000
set_option linter.unusedVariables false
set_option linter.unusedSimpArgs false
set_option linter.unusedSectionVars false
namespace Go.Proofs.YtfaplndgbgoaaaaGreatDoor
open Go Go.Eng
attribute [local irreducible] V VO VQ VY Quiet QR jB kX Rng uJ uY qW
def gBs(a0:gH)(a1:List jD)(a2:gD):Option (gD × Bool × Bool):=
lt_ ((cnd (a2.kind != 3) (true) ((gLj a2)))) fun b1=>
(cnd b1 (
(some (a2,false,true))) (
bnd (gFn a0 a1 a2) fun x4=>
(cnd (x4.2 != 0) (
(some (a2,false,false))) (
(some (x4.1,(!(teq x4.1 a2)),true))))))
theorem gK4(a0:gH)(a1:List jD)(a2:gD){r:gD × Bool × Bool}(h:gBs a0 a1 a2=some r):jB Tryz.prog 62 [.d (kT a0),.L 4 (jT a1),.d (jP a2)] [jP r.1,.b r.2.1,.b r.2.2]:=by
 obtain⟨a0_0⟩:=a0
 obtain⟨a2_0,a2_1,a2_2⟩:=a2
 unfold gBs at h
 refine SpI Tryz.func62 fun A _=>?_
 refine goL ?_
 obtain⟨b1,hb1,h⟩:=qR h
 refine jU ⟨[(1,.L 4 (jT a1)),(3,.ptr 0 0),(5,.ptr 1 0),(6,.ptr 2 0),(17,.B b1)],[.box [.L 6 (kN a0_0)],.box [.I a2_0,.S a2_1,.L 3 (gJ a2_2)],.box [.I 0,.S [],.nilsl]],Tryz.f62.ntmps⟩ ?_ ?_
 ·refine gN 14 (fun c2=>?_) (fun c2=>?_)
  ·replace hb1:=gX c2 hb1
   refine goL ?_
   cases hb1
   exact eJ
  ·replace hb1:=gY c2 hb1
   refine goL ?_
   refine uD ?_
   refine jI (gF (gTc (gD.mk a2_0 a2_1 a2_2))) ?_
   cases hb1
   exact eJ
 refine goC h ?_ ?_<;>intro c3 h
 ·exact goR h
 ·refine goS ?_
  obtain⟨⟨⟨x4_0_0,x4_0_1,x4_0_2⟩,x4_1⟩,hx4,h⟩:=gK h
  refine jI (gF (gQe (gH.mk a0_0) a1 (gD.mk a2_0 a2_1 a2_2) hx4)) ?_
  refine mO (fun c5=>?_) (fun c5=>?_)
  ·replace h:=gX c5 h
   exact goR h
  ·replace h:=gY c5 h
   refine noS ?_
   refine uZ (P:=Tryz.prog) Mix.h (.q 0 (.q 1 (.q 2 (.q 3 (.q 4 (.h 5 (.q 6 (.q 7 .nil)) .nil)))))) ⟨[(6,.ptr 2 0),(7,.d (.b (!(teq (gD.mk x4_0_0 x4_0_1 x4_0_2) (gD.mk a2_0 a2_1 a2_2))))),(8,.B true)],[.box [.L 6 (kN a0_0)],.box [.I a2_0,.S a2_1,.L 3 (gJ a2_2)],.box [.I x4_0_0,.S x4_0_1,.L 3 (gJ x4_0_2)],.box [.I x4_0_0,.S x4_0_1,.L 3 (gJ x4_0_2)]],Tryz.f62.ntmps⟩ (by kernel_rfl) ?_ ?_
   ·refine goT ?_
    refine zW (jC rfl (gF (gBw (gD.mk x4_0_0 x4_0_1 x4_0_2) (gD.mk a2_0 a2_1 a2_2))) jQ) ?_
    refine hOt rfl (hG9) ?_
    refine goT ?_
    refine jW ?_
    exact vG 0 [0,1,2,3]
   exact goR h
def gOu(a0:pU):Option (Bool):=
bnd ((cnd (!(kW a0.name)) ((some true)) ((cnd (decide ((a0.params.length:Int) > 4)) ((some true)) (bnd (gLi a0.params [[115,101,108,102]]) fun x4=>
(cnd (!x4) ((some true)) (bnd (gB0 a0.result [[115,101,108,102]]) fun x6=>
(some (!x6))))))))) fun b1=>
(cnd b1 (
(some false)) (
(cnd (!a0.hasDefault) (
bnd ((cnd ((a0.vars.length:Int)==0) (bnd (gMk a0.body) fun x11=>
(some x11)) ((some false)))) fun b9=>
(some b9)) (
bnd (vY a0.vars 5) fun x12=>
bnd ((cnd x12 ((cnd ((a0.vars.length:Int)==(IntKind.i64.wrap ((a0.params.length:Int)+1))) (bnd (gHm a0.body a0.vars) fun x16=>
(some x16)) ((some false)))) ((some false)))) fun b13=>
(some b13)))))
theorem gZp(a0:pU){r:Bool}(h:gOu a0=some r):jB Tryz.prog 149 [.d (gEm a0)] [.b r]:=by
 obtain⟨a0_0,a0_1,⟨a0_2_0,a0_2_1,a0_2_2⟩,a0_3,a0_4,⟨a0_5_0,a0_5_1,a0_5_2,a0_5_3,⟨a0_5_4_0,a0_5_4_1,a0_5_4_2⟩,a0_5_5,a0_5_6⟩⟩:=a0
 unfold gOu at h
 refine SpI Tryz.func149 fun A _=>?_
 refine goL ?_
 refine jI (gF (pK a0_0)) ?_
 obtain⟨b1,hb1,h⟩:=gK h
 refine jU ⟨[(1,.ptr 0 0),(26,.B b1)],[.box [.S a0_0,.L 3 (gJ a0_1),.I a0_2_0,.S a0_2_1,.L 3 (gJ a0_2_2),.B a0_3,.L 1 (gZ a0_4),.I a0_5_0,.S a0_5_1,.S a0_5_2,.I a0_5_3,.I a0_5_4_0,.S a0_5_4_1,.L 3 (gJ a0_5_4_2),.L 9 (kP a0_5_5),.L 11 (qD a0_5_6)]],Tryz.f149.ntmps⟩ ?_ ?_
 ·refine gN 7 (fun c2=>?_) (fun c2=>?_) (by first | rfl | (simp only [jG,gU];rfl))
  ·replace hb1:=gX c2 hb1
   refine goL ?_
   cases hb1
   exact⟨rfl,⟨⟨rfl,rfl⟩,⟨by first | rfl | (simp only [jG,gU];rfl),rfl⟩,trivial⟩,⟨_,rfl⟩,rfl⟩
  ·replace hb1:=gY c2 hb1
   refine goL ?_
   refine gN 13 (fun c3=>?_) (fun c3=>?_) (by first | rfl | (simp only [jG,gU];rfl))
   ·replace hb1:=gX c3 hb1
    refine goL ?_
    cases hb1
    exact⟨rfl,⟨⟨rfl,rfl⟩,⟨by first | rfl | (simp only [jG,gU];rfl),rfl⟩,trivial⟩,⟨_,rfl⟩,rfl⟩
   ·replace hb1:=gY c3 hb1
    refine goL ?_
    refine uD ?_
    refine gA7 ([115,101,108,102]:List UInt8) ?_
    refine uD ?_
    obtain⟨x4,hx4,hb1⟩:=gK hb1
    refine gFl (gSj (gTa a0_1 [[115,101,108,102]] hx4)) ?_
    refine gN 20 (fun c5=>?_) (fun c5=>?_) (by first | rfl | (simp only [jG,gU];rfl))
    ·replace hb1:=gX c5 hb1
     refine goL ?_
     cases hb1
     exact⟨rfl,⟨⟨rfl,rfl⟩,⟨by first | rfl | (simp only [jG,gU];rfl),rfl⟩,trivial⟩,⟨_,rfl⟩,rfl⟩
    ·replace hb1:=gY c5 hb1
     refine goL ?_
     refine uD ?_
     refine gA7 ([115,101,108,102]:List UInt8) ?_
     refine uD ?_
     obtain⟨x6,hx6,hb1⟩:=gK hb1
     refine gFl (gSj (gEp (gD.mk a0_2_0 a0_2_1 a0_2_2) [[115,101,108,102]] hx6)) ?_
     cases hb1
     exact⟨rfl,⟨⟨rfl,rfl⟩,⟨by first | rfl | (simp only [jG,gU];rfl),rfl⟩,trivial⟩,⟨_,rfl⟩,rfl⟩
 refine goC h ?_ ?_<;>intro c7 h
 ·exact goR h
 ·refine goS ?_
  refine mO (fun c8=>?_) (fun c8=>?_)
  ·replace h:=gX c8 h
   refine goL ?_
   obtain⟨b9,hb9,h⟩:=gK h
   refine jU ⟨[(2,.B b9)],[.box [.S a0_0,.L 3 (gJ a0_1),.I a0_2_0,.S a0_2_1,.L 3 (gJ a0_2_2),.B a0_3,.L 1 (gZ a0_4),.I a0_5_0,.S a0_5_1,.S a0_5_2,.I a0_5_3,.I a0_5_4_0,.S a0_5_4_1,.L 3 (gJ a0_5_4_2),.L 9 (kP a0_5_5),.L 11 (qD a0_5_6)]],Tryz.f149.ntmps⟩ ?_ ?_
   ·refine gN 34 (fun c10=>?_) (fun c10=>?_)
    ·replace hb9:=gX c10 hb9
     refine goL ?_
     refine uD ?_
     obtain⟨x11,hx11,hb9⟩:=gK hb9
     refine jI (gF (gWr (jM.mk a0_5_0 a0_5_1 a0_5_2 a0_5_3 (gD.mk a0_5_4_0 a0_5_4_1 a0_5_4_2) a0_5_5 a0_5_6) hx11)) ?_
     cases hb9
     exact eJ
    ·replace hb9:=gY c10 hb9
     refine goL ?_
     cases hb9
     exact eJ
   exact goR h
  ·replace h:=gY c8 h
   refine goS ?_
   obtain⟨x12,hx12,h⟩:=gK h
   refine jI (gF (yL a0_4 5 hx12)) ?_
   obtain⟨b13,hb13,h⟩:=gK h
   refine jU ⟨[(2,.B b13)],[.box [.S a0_0,.L 3 (gJ a0_1),.I a0_2_0,.S a0_2_1,.L 3 (gJ a0_2_2),.B a0_3,.L 1 (gZ a0_4),.I a0_5_0,.S a0_5_1,.S a0_5_2,.I a0_5_3,.I a0_5_4_0,.S a0_5_4_1,.L 3 (gJ a0_5_4_2),.L 9 (kP a0_5_5),.L 11 (qD a0_5_6)]],Tryz.f149.ntmps⟩ ?_ ?_
   ·refine gN 42 (fun c14=>?_) (fun c14=>?_) (by first | rfl | (simp only [jG,gU];rfl))
    ·replace hb13:=gX c14 hb13
     refine goL ?_
     refine uD ?_
     refine jI (qC) ?_
     refine gN 52 (fun c15=>?_) (fun c15=>?_) (by first | rfl | (simp only [jG,gU];rfl))
     ·replace hb13:=gX c15 hb13
      refine goL ?_
      refine uD ?_
      obtain⟨x16,hx16,hb13⟩:=gK hb13
      refine jI (gF (gL7 (jM.mk a0_5_0 a0_5_1 a0_5_2 a0_5_3 (gD.mk a0_5_4_0 a0_5_4_1 a0_5_4_2) a0_5_5 a0_5_6) a0_4 hx16)) ?_
      cases hb13
      exact⟨rfl,⟨⟨by first | rfl | (simp only [jG,gU];rfl),rfl⟩,trivial⟩,⟨_,rfl⟩,rfl⟩
     ·replace hb13:=gY c15 hb13
      refine goL ?_
      cases hb13
      exact⟨rfl,⟨⟨by first | rfl | (simp only [jG,gU];rfl),rfl⟩,trivial⟩,⟨_,rfl⟩,rfl⟩
    ·replace hb13:=gY c14 hb13
     refine goL ?_
     cases hb13
     exact⟨rfl,⟨⟨by first | rfl | (simp only [jG,gU];rfl),rfl⟩,trivial⟩,⟨_,rfl⟩,rfl⟩
   exact goR h
def uL(a0:kY)(x4:gB):List pO→(List gB)→Option (gB)
 | [],y5=>bnd (zX a0) fun x15=>
bnd (gKg x15 (gB.mk x4.atom y5)) fun x16=>
(some x16)
 | x10::xs,y5=>lt_ (kV x10.name) fun x11=>
bnd (gIc x10.fields) fun x12=>
gd ([x11].length+x12.length≤4294967296) (
gd (y5.length+[(gB.mk [] ([x11]++x12))].length≤4294967296) (
uL a0 x4 xs (y5++[(gB.mk [] ([x11]++x12))])))
def gB4(a0:kY):Option (gB):=
lt_ (kV [100,97,116,97]) fun x1=>
lt_ (kV a0.name) fun x2=>
bnd (zR a0.vars) fun x3=>
bnd (gGl [x1,x2,x3]) fun x4=>
uL a0 x4 a0.constructors x4.list
theorem gJm(a0:kY){r:gB}(h:gB4 a0=some r):jB Tryz.prog 120 [.d (gDo a0)] [mF r]:=by
 obtain⟨a0_0,a0_1,a0_2⟩:=a0
 unfold gB4 at h
 refine SpI Tryz.func120 fun A _=>?_
 refine gHk ?_
 obtain⟨⟨x1_0,x1_1⟩,hx1,h⟩:=qR h
 have sx1:=mG [100,97,116,97]
 rw [hx1] at sx1
 obtain⟨⟨x2_0,x2_1⟩,hx2,h⟩:=qR h
 have sx2:=mG a0_0
 rw [hx2] at sx2
 obtain⟨⟨x3_0,x3_1⟩,hx3,h⟩:=gK h
 obtain⟨⟨x4_0,x4_1⟩,hx4,h⟩:=gK h
 refine uZ (P:=Tryz.prog) Mix.h (.q 0 (.q 1 (.q 2 (.q 3 (.q 4 (.q 5 (.q 6 (.h 7 (.h 8 (.h 9 (.h 10 .nil .nil) .nil) (.h 9 (.h 8 (.h 10 .nil .nil) .nil) .nil)) (.h 9 (.h 7 (.h 8 (.h 10 .nil .nil) .nil) .nil) .nil))))))))) ⟨[(1,.ptr 0 0),(2,.ptr 1 0),(3,.ptr 4 0)],[.box [.S a0_0,.L 1 (gZ a0_1),.L 2 (mV a0_2)],.box [.S [],.nilsl],.frz 107 2 0 (gM [(gB.mk x1_0 x1_1),(gB.mk x2_0 x2_1),(gB.mk x3_0 x3_1)]),.arr 107 2 0 (gM x4_1),.box [.S x4_0,.sl 3 0]],Tryz.f120.ntmps⟩ (by kernel_rfl) ?_ ?_
 ·refine zW (jC rfl (gF (sx1)) jQ) ?_
  refine goT ?_
  refine zW (jC rfl (gF (sx2)) jQ) ?_
  refine goT ?_
  refine zW (jC rfl (gF (qQ a0_1 hx3)) jQ) ?_
  refine wQ (pY (T:=105) (us:=gM [(gB.mk x1_0 x1_1),(gB.mk x2_0 x2_1),(gB.mk x3_0 x3_1)]) jQ) ?_ ?_
  ·refine wQ (zO 2 rfl rfl (gBy (sv:=.ag [.S x4_0,.sl 3 0]) (L':=[.box [.S a0_0,.L 1 (gZ a0_1),.L 2 (mV a0_2)],.box [.S [],.nilsl],.frz 107 2 0 (gM [(gB.mk x1_0 x1_1),(gB.mk x2_0 x2_1),(gB.mk x3_0 x3_1)]),.arr 107 2 0 (gM x4_1)]) [] (uF [(gB.mk x1_0 x1_1),(gB.mk x2_0 x2_1),(gB.mk x3_0 x3_1)] hx4) jQ)) ?_ ?_
   ·refine goT ?_
    refine jW ?_
    exact vG 0 [0,1,2,3,4]
   refine goT ?_
   refine jO (zO 2 rfl rfl (gBy (sv:=.ag [.S x4_0,.sl 4 0]) (L':=[.box [.S a0_0,.L 1 (gZ a0_1),.L 2 (mV a0_2)],.box [.S [],.nilsl],.frz 107 2 0 (gM [(gB.mk x1_0 x1_1),(gB.mk x2_0 x2_1),(gB.mk x3_0 x3_1)]),.box [.S [],.nilsl],.arr 107 2 0 (gM x4_1)]) [] (uF [(gB.mk x1_0 x1_1),(gB.mk x2_0 x2_1),(gB.mk x3_0 x3_1)] hx4) jQ)) ?_
   refine goT ?_
   refine jW ?_
   exact vG 0 [0,1,2,4,3]
  refine goT ?_
  refine jO (pY (T:=105) (us:=gM [(gB.mk x1_0 x1_1),(gB.mk x2_0 x2_1),(gB.mk x3_0 x3_1)]) jQ) ?_
  refine jO (zO 3 rfl rfl (gBy (sv:=.ag [.S x4_0,.sl 4 0]) (L':=[.box [.S a0_0,.L 1 (gZ a0_1),.L 2 (mV a0_2)],.box [.S [],.nilsl],.box [.S [],.nilsl],.frz 107 2 0 (gM [(gB.mk x1_0 x1_1),(gB.mk x2_0 x2_1),(gB.mk x3_0 x3_1)]),.arr 107 2 0 (gM x4_1)]) [] (uF [(gB.mk x1_0 x1_1),(gB.mk x2_0 x2_1),(gB.mk x3_0 x3_1)] hx4) jQ)) ?_
  refine goT ?_
  refine jW ?_
  exact vG 0 [0,1,3,4,2]
 refine goL ?_
 refine noB ?_
 refine vN 0 2 (fun z8=>?_)
 refine kR (fun(y7:Nat) (y5:List gB) (v6:Nat)=>⟨[(1,.ptr 0 0),(2,.ptr 1 0),(3,.ptr 4 0),(4,.N y7)],[.box [.S a0_0,.L 1 (gZ a0_1),.L 2 (mV a0_2)],.box [.S [],.nilsl],.frz 107 2 0 (gM [(gB.mk x1_0 x1_1),(gB.mk x2_0 x2_1),(gB.mk x3_0 x3_1)]),.arr 107 2 v6 (gM y5),.box [.S x4_0,.sl 3 v6]],Tryz.f120.ntmps⟩) (fun y7 y5 v6=>uL (kY.mk a0_0 a0_1 a0_2) (gB.mk x4_0 x4_1) (a0_2.drop y7) y5=some r) (fun y7 y5 v6=>a0_2.length - y7) 0 x4_1 0 eJ h ?_
 rintro y7 y5 v6 h
 refine goL ?_
 refine mO (fun c9=>?_) (fun c9=>?_)
 ·have hky72:=wE c9
  obtain⟨x10,hx10,hdx10⟩:=drop_at hky72
  rw [hdx10,uL.eq_2] at h
  obtain⟨x10_0,x10_1⟩:=x10
  refine noS ?_
  refine kI (jE ?_)
  refine uX (P:=Tryz.prog) Mix.h [(0,true),(1,true),(2,true),(3,true),(4,true),(5,true),(6,true),(7,true),(8,true),(10,true),(11,true),(12,true),(13,true),(14,true),(15,true),(16,true),(9,false),(17,false),(18,true),(19,false),(20,false),(21,true),(22,false)] (by kernel_rfl) ?_
  refine goY ?_
  refine jC rfl (jJ y7 (gBu hx10)) ?_
  refine goY ?_
  obtain⟨⟨x11_0,x11_1⟩,hx11,h⟩:=qR h
  have sx11:=mG x10_0
  rw [hx11] at sx11
  refine jC rfl (gF (sx11)) ?_
  refine goY ?_
  refine jC rfl (jJ y7 (gBu hx10)) ?_
  refine goY ?_
  obtain⟨x12,hx12,h⟩:=gK h
  refine jC rfl (gF (gN5 x10_1 hx12)) ?_
  refine pY (T:=105) (us:=gM [(gB.mk x11_0 x11_1)]) ?_
  obtain⟨g13,h⟩:=mZ h
  refine pV (T:=105) g13 ?_
  refine goY ?_
  refine zO 5 rfl rfl ?_
  refine pY (T:=105) (us:=gM [(gB.mk [] ([(gB.mk x11_0 x11_1)]++x12))]) ?_
  obtain⟨g14,h⟩:=mZ h
  refine pV (T:=105) g14 ?_
  refine goY ?_
  refine kS ?_
  refine goL ?_
  refine jI (jS y7 (by omega)) ?_
  exact⟨(y7+1),(y5++[(gB.mk [] ([(gB.mk x11_0 x11_1)]++x12))]),(v6+1),h,by omega,eJ⟩
 ·have hky72:=wF c9
  rw [jF hky72,uL.eq_1] at h
  refine noX ?_
  refine kK 3 rfl rfl ?_
  refine hHa ?_
  refine jL (P:=Tryz.prog) Mix.h [(0,true),(1,true),(2,true),(3,true),(4,false)] (by kernel_rfl) ?_
  refine goY ?_
  obtain⟨x15,hx15,h⟩:=gK h
  refine jC rfl (gF (gFo (kY.mk a0_0 a0_1 a0_2) hx15)) ?_
  refine goY ?_
  obtain⟨⟨x16_0,x16_1⟩,hx16,h⟩:=gK h
  refine jC rfl (gF (gOs x15 (gB.mk x4_0 y5) hx16)) ?_
  refine goY ?_
  refine kS ?_
  exact goR h
def uM:List gBo→(List (List UInt8))→Option (Bool)
 | [],y25=>bnd (vY y25 6) fun x38=>
(some x38)
 | x30::xs,y25=>bnd ((cnd ((x30.vars.length:Int)==0) ((some true)) (bnd (vY x30.vars 5) fun x33=>
(cnd (!x33) ((some true)) (bnd (gHm x30.body x30.vars) fun x35=>
(some (!x35))))))) fun b31=>
(cnd b31 (
(some false)) (
gd (y25.length+[x30.name].length≤4294967296) (
uM xs (y25++[x30.name]))))
def uN(a0:jZ):List (List UInt8)→Option (Bool)
 | []=>bnd ((cnd a0.hasAssoc (bnd (gB0 a0.assoc a0.vars) fun x20=>
(cnd (!x20) ((some true)) ((cnd (!a0.hasAssoc) ((some (!(yN a0.assoc)))) ((some false)))))) ((cnd (!a0.hasAssoc) ((some (!(yN a0.assoc)))) ((some false)))))) fun b18=>
(cnd b18 (
(some false)) (
uM a0.methods []))
 | x15::xs=>bnd (gCs x15 a0.head) fun x16=>
(cnd (!x16) (
(some false)) (
uN a0 xs ))
def zY(a0:jZ):Option (Bool):=
bnd ((cnd (!(kW a0.trait)) ((some true)) (bnd (vY a0.vars 3) fun x3=>
(cnd (!x3) ((some true)) (bnd (gB0 a0.head a0.vars) fun x5=>
(cnd (!x5) ((some true)) (bnd (gBh 5000 a0.head) fun x7=>
(cnd x7 ((some true)) ((cnd (a0.head.kind==4) ((some true)) (bnd (gIb a0.where_ a0.vars) fun x10=>
(some (!x10))))))))))))) fun b1=>
(cnd b1 (
(some false)) (
uN a0 a0.vars ))
theorem gFq(a0:jZ){r:Bool}(h:zY a0=some r):jB Tryz.prog 129 [.d (gCl a0)] [.b r]:=by
 obtain⟨a0_0,a0_1,⟨a0_2_0,a0_2_1,a0_2_2⟩,a0_3,a0_4,a0_5,⟨a0_6_0,a0_6_1,a0_6_2⟩,a0_7⟩:=a0
 unfold zY at h
 refine SpI Tryz.func129 fun A _=>?_
 refine goL ?_
 refine jI (gF (pK a0_0)) ?_
 obtain⟨b1,hb1,h⟩:=gK h
 refine jU ⟨[(1,.ptr 0 0),(43,.B b1)],[.box [.S a0_0,.L 1 (gZ a0_1),.I a0_2_0,.S a0_2_1,.L 3 (gJ a0_2_2),.L 4 (jT a0_3),.B a0_4,.B a0_5,.I a0_6_0,.S a0_6_1,.L 3 (gJ a0_6_2),.L 11 (mW a0_7)]],Tryz.f129.ntmps⟩ ?_ ?_
 ·refine gN 11 (fun c2=>?_) (fun c2=>?_)
  ·replace hb1:=gX c2 hb1
   refine goL ?_
   cases hb1
   exact eJ
  ·replace hb1:=gY c2 hb1
   refine goL ?_
   refine uD ?_
   obtain⟨x3,hx3,hb1⟩:=gK hb1
   refine jI (gF (yL a0_1 3 hx3)) ?_
   refine gN 17 (fun c4=>?_) (fun c4=>?_)
   ·replace hb1:=gX c4 hb1
    refine goL ?_
    cases hb1
    exact eJ
   ·replace hb1:=gY c4 hb1
    refine goL ?_
    refine uD ?_
    obtain⟨x5,hx5,hb1⟩:=gK hb1
    refine jI (gF (gEp (gD.mk a0_2_0 a0_2_1 a0_2_2) a0_1 hx5)) ?_
    refine gN 25 (fun c6=>?_) (fun c6=>?_)
    ·replace hb1:=gX c6 hb1
     refine goL ?_
     cases hb1
     exact eJ
    ·replace hb1:=gY c6 hb1
     refine goL ?_
     refine uD ?_
     obtain⟨x7,hx7,hb1⟩:=gK hb1
     refine jI (gF (gHc 5000 (gD.mk a0_2_0 a0_2_1 a0_2_2) hx7)) ?_
     refine gN 30 (fun c8=>?_) (fun c8=>?_)
     ·replace hb1:=gX c8 hb1
      refine goL ?_
      cases hb1
      exact eJ
     ·replace hb1:=gY c8 hb1
      refine goL ?_
      refine gN 36 (fun c9=>?_) (fun c9=>?_)
      ·replace hb1:=gX c9 hb1
       refine goL ?_
       cases hb1
       exact eJ
      ·replace hb1:=gY c9 hb1
       refine goL ?_
       refine uD ?_
       obtain⟨x10,hx10,hb1⟩:=gK hb1
       refine jI (gF (gN4 a0_3 a0_1 hx10)) ?_
       cases hb1
       exact eJ
 refine goC h ?_ ?_<;>intro c11 h
 ·exact goR h
 ·refine goS ?_
  refine noB ?_
  refine vN 0 1 (fun z13=>?_)
  refine pJ (fun(y12:Nat)=>⟨[(1,.ptr 0 0),(3,.N y12)],[.box [.S a0_0,.L 1 (gZ a0_1),.I a0_2_0,.S a0_2_1,.L 3 (gJ a0_2_2),.L 4 (jT a0_3),.B a0_4,.B a0_5,.I a0_6_0,.S a0_6_1,.L 3 (gJ a0_6_2),.L 11 (mW a0_7)]],Tryz.f129.ntmps⟩) (fun y12=>uN (jZ.mk a0_0 a0_1 (gD.mk a0_2_0 a0_2_1 a0_2_2) a0_3 a0_4 a0_5 (gD.mk a0_6_0 a0_6_1 a0_6_2) a0_7) (a0_1.drop y12)  =some r) (fun y12=>a0_1.length - y12) 0 eJ h ?_
  rintro y12 h
  refine goL ?_
  refine mO (fun c14=>?_) (fun c14=>?_)
  ·have hky122:=wE c14
   obtain⟨x15,hx15,hdx15⟩:=drop_at hky122
   rw [hdx15,uN.eq_2] at h
   refine noS ?_
   refine kI (jE ?_)
   refine goL ?_
   refine gDm (jJ y12 (gOe hx15)) ?_
   refine goL ?_
   obtain⟨x16,hx16,h⟩:=gK h
   refine gDm (gF (gMf x15 (gD.mk a0_2_0 a0_2_1 a0_2_2) hx16)) ?_
   refine goC h ?_ ?_<;>intro c17 h
   ·exact goR h
   ·refine goS ?_
    refine jI (jS y12 (by omega)) ?_
    exact⟨(y12+1),h,by omega,eJ⟩
  ·have hky122:=wF c14
   rw [jF hky122,uN.eq_1] at h
   refine goX ?_
   obtain⟨b18,hb18,h⟩:=gK h
   refine jU ⟨[(1,.ptr 0 0),(80,.B b18)],[.box [.S a0_0,.L 1 (gZ a0_1),.I a0_2_0,.S a0_2_1,.L 3 (gJ a0_2_2),.L 4 (jT a0_3),.B a0_4,.B a0_5,.I a0_6_0,.S a0_6_1,.L 3 (gJ a0_6_2),.L 11 (mW a0_7)]],Tryz.f129.ntmps⟩ ?_ ?_
   ·refine gN 62 (fun c19=>?_) (fun c19=>?_)
    ·replace hb18:=gX c19 hb18
     refine goL ?_
     refine uD ?_
     obtain⟨x20,hx20,hb18⟩:=gK hb18
     refine jI (gF (gEp (gD.mk a0_6_0 a0_6_1 a0_6_2) a0_1 hx20)) ?_
     refine gN 70 (fun c21=>?_) (fun c21=>?_)
     ·replace hb18:=gX c21 hb18
      refine goL ?_
      cases hb18
      exact eJ
     ·replace hb18:=gY c21 hb18
      refine goL ?_
      refine gN 74 (fun c22=>?_) (fun c22=>?_)
      ·replace hb18:=gX c22 hb18
       refine goL ?_
       refine uD ?_
       refine jI (gF (gBa (gD.mk a0_6_0 a0_6_1 a0_6_2))) ?_
       cases hb18
       exact eJ
      ·replace hb18:=gY c22 hb18
       refine goL ?_
       cases hb18
       exact eJ
    ·replace hb18:=gY c19 hb18
     refine goL ?_
     refine gN 74 (fun c23=>?_) (fun c23=>?_)
     ·replace hb18:=gX c23 hb18
      refine goL ?_
      refine uD ?_
      refine jI (gF (gBa (gD.mk a0_6_0 a0_6_1 a0_6_2))) ?_
      cases hb18
      exact eJ
     ·replace hb18:=gY c23 hb18
      refine goL ?_
      cases hb18
      exact eJ
   refine goC h ?_ ?_<;>intro c24 h
   ·exact goR h
   ·refine goS ?_
    refine gFc ?_
    refine goL ?_
    refine noB ?_
    refine vN 0 11 (fun z28=>?_)
    refine kR (fun(y27:Nat) (y25:List (List UInt8)) (v26:Nat)=>⟨[(1,.ptr 0 0),(4,.sl 1 v26),(5,.N y27)],[.box [.S a0_0,.L 1 (gZ a0_1),.I a0_2_0,.S a0_2_1,.L 3 (gJ a0_2_2),.L 4 (jT a0_3),.B a0_4,.B a0_5,.I a0_6_0,.S a0_6_1,.L 3 (gJ a0_6_2),.L 11 (mW a0_7)],.own 9 1 v26 (gZ y25)],Tryz.f129.ntmps⟩) (fun y27 y25 v26=>uM (a0_7.drop y27) y25=some r) (fun y27 y25 v26=>a0_7.length - y27) 0 [] 0 eJ h ?_
    rintro y27 y25 v26 h
    refine goL ?_
    refine mO (fun c29=>?_) (fun c29=>?_)
    ·have hky272:=wE c29
     obtain⟨x30,hx30,hdx30⟩:=drop_at hky272
     rw [hdx30,uM.eq_2] at h
     obtain⟨x30_0,x30_1,⟨x30_2_0,x30_2_1,x30_2_2,x30_2_3,⟨x30_2_4_0,x30_2_4_1,x30_2_4_2⟩,x30_2_5,x30_2_6⟩⟩:=x30
     refine noS ?_
     refine kI (jE ?_)
     refine goL ?_
     refine jI (jJ y27 (gXi hx30)) ?_
     obtain⟨b31,hb31,h⟩:=gK h
     refine jU ⟨[(1,.ptr 0 0),(4,.sl 1 v26),(5,.N y27),(6,.ptr 2 0),(111,.B b31)],[.box [.S a0_0,.L 1 (gZ a0_1),.I a0_2_0,.S a0_2_1,.L 3 (gJ a0_2_2),.L 4 (jT a0_3),.B a0_4,.B a0_5,.I a0_6_0,.S a0_6_1,.L 3 (gJ a0_6_2),.L 11 (mW a0_7)],.own 9 1 v26 (gZ y25),.box [.S x30_0,.L 1 (gZ x30_1),.I x30_2_0,.S x30_2_1,.S x30_2_2,.I x30_2_3,.I x30_2_4_0,.S x30_2_4_1,.L 3 (gJ x30_2_4_2),.L 9 (kP x30_2_5),.L 11 (qD x30_2_6)]],Tryz.f129.ntmps⟩ ?_ ?_
     ·refine gN 98 (fun c32=>?_) (fun c32=>?_)
      ·replace hb31:=gX c32 hb31
       refine goL ?_
       cases hb31
       exact eJ
      ·replace hb31:=gY c32 hb31
       refine goL ?_
       refine uD ?_
       obtain⟨x33,hx33,hb31⟩:=gK hb31
       refine jI (gF (yL x30_1 5 hx33)) ?_
       refine gN 104 (fun c34=>?_) (fun c34=>?_)
       ·replace hb31:=gX c34 hb31
        refine goL ?_
        cases hb31
        exact eJ
       ·replace hb31:=gY c34 hb31
        refine goL ?_
        refine uD ?_
        obtain⟨x35,hx35,hb31⟩:=gK hb31
        refine jI (gF (gL7 (jM.mk x30_2_0 x30_2_1 x30_2_2 x30_2_3 (gD.mk x30_2_4_0 x30_2_4_1 x30_2_4_2) x30_2_5 x30_2_6) x30_1 hx35)) ?_
        cases hb31
        exact eJ
     refine goC h ?_ ?_<;>intro c36 h
     ·exact goR h
     ·refine goS ?_
      refine gA7 x30_0 ?_
      obtain⟨g37,h⟩:=mZ h
      refine gGg g37 ?_
      refine goL ?_
      refine jI (jS y27 (by omega)) ?_
      exact⟨(y27+1),(y25++[x30_0]),(v26+1),h,by omega,eJ⟩
    ·have hky272:=wF c29
     rw [jF hky272,uM.eq_1] at h
     refine goX ?_
     obtain⟨x38,hx38,h⟩:=gK h
     refine gA6 (gSj (yL y25 6 hx38)) ?_
     exact goR h
def uO(a0:mD):List gE8→(List (List UInt8))→Option (Bool)
 | [],y1=>bnd ((cnd (kW a0.name) (bnd (vY a0.vars 3) fun x12=>
(cnd x12 (bnd (gIb a0.where_ a0.vars) fun x14=>
(cnd x14 (bnd (vY y1 5) fun x16=>
(cnd x16 (bnd (gB0 a0.result a0.vars) fun x18=>
(cnd x18 (bnd (gHm a0.body y1) fun x20=>
(some x20)) ((some false)))) ((some false)))) ((some false)))) ((some false)))) ((some false)))) fun b10=>
(some b10)
 | x6::xs,y1=>bnd (gB0 x6.type_ a0.vars) fun x7=>
(cnd (!x7) (
(some false)) (
gd (y1.length+[x6.name].length≤4294967296) (
uO a0 xs (y1++[x6.name]))))
def zZ(a0:mD):Option (Bool):=
uO a0 a0.params []
theorem gFr(a0:mD){r:Bool}(h:zZ a0=some r):jB Tryz.prog 130 [.d (gDp a0)] [.b r]:=by
 obtain⟨a0_0,a0_1,a0_2,a0_3,⟨a0_4_0,a0_4_1,a0_4_2⟩,⟨a0_5_0,a0_5_1,a0_5_2,a0_5_3,⟨a0_5_4_0,a0_5_4_1,a0_5_4_2⟩,a0_5_5,a0_5_6⟩⟩:=a0
 unfold zZ at h
 refine SpI Tryz.func130 fun A _=>?_
 refine goL ?_
 refine gFc ?_
 refine goL ?_
 refine noB ?_
 refine vN 0 3 (fun z4=>?_)
 refine kR (fun(y3:Nat) (y1:List (List UInt8)) (v2:Nat)=>⟨[(1,.ptr 0 0),(3,.sl 1 v2),(4,.N y3)],[.box [.S a0_0,.L 1 (gZ a0_1),.L 4 (jT a0_2),.L 4 (gE9 a0_3),.I a0_4_0,.S a0_4_1,.L 3 (gJ a0_4_2),.I a0_5_0,.S a0_5_1,.S a0_5_2,.I a0_5_3,.I a0_5_4_0,.S a0_5_4_1,.L 3 (gJ a0_5_4_2),.L 9 (kP a0_5_5),.L 11 (qD a0_5_6)],.own 9 1 v2 (gZ y1)],Tryz.f130.ntmps⟩) (fun y3 y1 v2=>uO (mD.mk a0_0 a0_1 a0_2 a0_3 (gD.mk a0_4_0 a0_4_1 a0_4_2) (jM.mk a0_5_0 a0_5_1 a0_5_2 a0_5_3 (gD.mk a0_5_4_0 a0_5_4_1 a0_5_4_2) a0_5_5 a0_5_6)) (a0_3.drop y3) y1=some r) (fun y3 y1 v2=>a0_3.length - y3) 0 [] 0 eJ h ?_
 rintro y3 y1 v2 h
 refine goL ?_
 refine mO (fun c5=>?_) (fun c5=>?_)
 ·have hky32:=wE c5
  obtain⟨x6,hx6,hdx6⟩:=drop_at hky32
  rw [hdx6,uO.eq_2] at h
  obtain⟨x6_0,⟨x6_1_0,x6_1_1,x6_1_2⟩⟩:=x6
  refine noS ?_
  refine kI (jE ?_)
  refine goL ?_
  refine gDm (jJ y3 (gTv hx6)) ?_
  refine goL ?_
  obtain⟨x7,hx7,h⟩:=gK h
  refine gDm (gF (gEp (gD.mk x6_1_0 x6_1_1 x6_1_2) a0_1 hx7)) ?_
  refine goC h ?_ ?_<;>intro c8 h
  ·exact goR h
  ·refine goS ?_
   refine jI (jJ y3 (gTv hx6)) ?_
   refine gA7 x6_0 ?_
   obtain⟨g9,h⟩:=mZ h
   refine gGg g9 ?_
   refine goL ?_
   refine jI (jS y3 (by omega)) ?_
   exact⟨(y3+1),(y1++[x6_0]),(v2+1),h,by omega,eJ⟩
 ·have hky32:=wF c5
  rw [jF hky32,uO.eq_1] at h
  refine goX ?_
  refine jI (gF (pK a0_0)) ?_
  obtain⟨b10,hb10,h⟩:=gK h
  refine jU ⟨[(2,.B b10)],[.box [.S a0_0,.L 1 (gZ a0_1),.L 4 (jT a0_2),.L 4 (gE9 a0_3),.I a0_4_0,.S a0_4_1,.L 3 (gJ a0_4_2),.I a0_5_0,.S a0_5_1,.S a0_5_2,.I a0_5_3,.I a0_5_4_0,.S a0_5_4_1,.L 3 (gJ a0_5_4_2),.L 9 (kP a0_5_5),.L 11 (qD a0_5_6)],.own 9 1 v2 (gZ y1)],Tryz.f130.ntmps⟩ ?_ ?_
  ·refine gN 35 (fun c11=>?_) (fun c11=>?_)
   ·replace hb10:=gX c11 hb10
    refine goL ?_
    refine uD ?_
    obtain⟨x12,hx12,hb10⟩:=gK hb10
    refine jI (gF (yL a0_1 3 hx12)) ?_
    refine gN 40 (fun c13=>?_) (fun c13=>?_)
    ·replace hb10:=gX c13 hb10
     refine goL ?_
     refine uD ?_
     obtain⟨x14,hx14,hb10⟩:=gK hb10
     refine jI (gF (gN4 a0_2 a0_1 hx14)) ?_
     refine gN 47 (fun c15=>?_) (fun c15=>?_)
     ·replace hb10:=gX c15 hb10
      refine goL ?_
      refine uD ?_
      obtain⟨x16,hx16,hb10⟩:=gK hb10
      refine gFl (gSj (yL y1 5 hx16)) ?_
      refine gN 51 (fun c17=>?_) (fun c17=>?_)
      ·replace hb10:=gX c17 hb10
       refine goL ?_
       refine uD ?_
       obtain⟨x18,hx18,hb10⟩:=gK hb10
       refine jI (gF (gEp (gD.mk a0_4_0 a0_4_1 a0_4_2) a0_1 hx18)) ?_
       refine gN 58 (fun c19=>?_) (fun c19=>?_)
       ·replace hb10:=gX c19 hb10
        refine goL ?_
        refine uD ?_
        obtain⟨x20,hx20,hb10⟩:=gK hb10
        refine gFl (gSj (gL7 (jM.mk a0_5_0 a0_5_1 a0_5_2 a0_5_3 (gD.mk a0_5_4_0 a0_5_4_1 a0_5_4_2) a0_5_5 a0_5_6) y1 hx20)) ?_
        cases hb10
        exact eJ
       ·replace hb10:=gY c19 hb10
        refine goL ?_
        cases hb10
        exact eJ
      ·replace hb10:=gY c17 hb10
       refine goL ?_
       cases hb10
       exact eJ
     ·replace hb10:=gY c15 hb10
      refine goL ?_
      cases hb10
      exact eJ
    ·replace hb10:=gY c13 hb10
     refine goL ?_
     cases hb10
     exact eJ
   ·replace hb10:=gY c11 hb10
    refine goL ?_
    cases hb10
    exact eJ
  exact goR h
end Go.Proofs.YtfaplndgbgoaaaaGreatDoor
