import Derived.Test.YtfaplndgbgoaaaaGreatDoorEng38
import Derived.Test.YtfaplndgbgoaaaaGreatDoorEng67
import Derived.Test.YtfaplndgbgoaaaaGreatDoorUn1
set_option maxHeartbeats 4000000
set_option linter.unusedVariables false
set_option linter.unusedSimpArgs false
set_option linter.unusedSectionVars false
namespace Go.Proofs.YtfaplndgbgoaaaaGreatDoor
open Go Go.Eng
attribute [local irreducible] V VO VQ VY Quiet QR jB kX Rng uJ uY qW
def wN(a1:List UInt8):List (List UInt8)→Nat→Int
 | [],y1=>(-1)
 | x4::xs,y1=>(cnd (a1==x4) (
(y1:Int)) (
wN a1 xs (y1+1)))
def gKd(a0:List (List UInt8))(a1:List UInt8):Int:=
wN a1 a0 0
theorem hCb(a0:List (List UInt8))(a1:List UInt8):jB Tryz.prog 66 [.L 1 (gZ a0),.S a1] [.i .i64 (gKd a0 a1)]:=by
 obtain⟨r,h⟩:∃r,gKd a0 a1=r:=⟨_,rfl⟩
 rw [h]
 unfold gKd at h
 refine SpI Tryz.func66 fun A _=>?_
 refine goL ?_
 refine noB ?_
 refine gFj 0 (fun z2=>?_)
 refine pJ (fun(y1:Nat)=>⟨[(0,.L 1 (gZ a0)),(1,.S a1),(7,.I (a0.length:Int)),(8,.N y1)],[],Tryz.f66.ntmps⟩) (fun y1=>wN a1 (a0.drop y1) y1=r) (fun y1=>a0.length - y1) 0 eJ h ?_
 rintro y1 h
 refine goL ?_
 refine kI (mO (fun c3=>?_) (fun c3=>?_))
 ·have hky12:=wE c3
  obtain⟨x4,hx4,hdx4⟩:=drop_at hky12
  rw [hdx4,wN.eq_2] at h
  refine noS ?_
  refine kI (jE ?_)
  refine goL ?_
  refine jI (jJ y1 (gOe hx4)) ?_
  refine mO (fun c5=>?_) (fun c5=>?_)
  ·replace h:=gX c5 h
   refine goL ?_
   refine jN ?_
   subst h
   exact qK
  ·replace h:=gY c5 h
   refine goS ?_
   refine jI (jS y1 (by omega)) ?_
   exact⟨(y1+1),h,by omega,eJ⟩
 ·have hky12:=wF c3
  rw [jF hky12,wN.eq_1] at h
  refine goX ?_
  refine jN ?_
  subst h
  exact qK
def gC2(a0:List (List UInt8))(a1:List UInt8):Bool:=
(decide ((gKd a0 a1)≥0))
theorem gS9(a0:List (List UInt8))(a1:List UInt8):jB Tryz.prog 53 [.L 1 (gZ a0),.S a1] [.b (gC2 a0 a1)]:=by
 obtain⟨r,h⟩:∃r,gC2 a0 a1=r:=⟨_,rfl⟩
 rw [h]
 unfold gC2 at h
 refine SpI Tryz.func53 fun A _=>?_
 refine goL ?_
 refine jI (gF (hCb a0 a1)) ?_
 refine jN ?_
 subst h
 exact qK
def gIa(u:gD)(l1:List (List UInt8)):Option (List (List UInt8)):=
lt_ ((cnd (u.kind==1) ((!(gC2 l1 u.name))) (false))) fun b1=>
(cnd b1 (
gd (l1.length+[u.name].length≤4294967296) (
(some (l1++[u.name])))) (
(some l1)))
theorem gZd(u:gD)(l1:List (List UInt8))(v1:Nat){r:List (List UInt8)}(h:gIa u l1=some r):Go.Eng.Spec Tryz.prog 52 [.d (jP u),.ptr 0 0] [.box [.sl 1 v1],.own 9 1 v1 (gZ l1)] (fun sv Lo=>∃v'1,sv=.tup []∧Lo=[.box [.sl 1 v'1],.own 9 1 v'1 (gZ r)]):=by
 obtain⟨u_0,u_1,u_2⟩:=u
 unfold gIa at h
 refine mP 2 Tryz.func52 rfl (by kernel_rfl) rfl rfl fun A _=>?_
 refine goL ?_
 obtain⟨b1,hb1,h⟩:=qR h
 refine jU ⟨[(1,.ptr 0 0),(2,.ptr 2 0),(12,.B b1)],[.box [.sl 1 v1],.own 9 1 v1 (gZ l1),.box [.I u_0,.S u_1,.L 3 (gJ u_2)]],Tryz.f52.ntmps⟩ ?_ ?_
 ·refine gN 6 (fun c2=>?_) (fun c2=>?_)
  ·replace hb1:=gX c2 hb1
   refine goL ?_
   refine uD ?_
   refine gFl (gSj (gS9 l1 u_1)) ?_
   cases hb1
   exact eJ
  ·replace hb1:=gY c2 hb1
   refine goL ?_
   cases hb1
   exact eJ
 refine goC h ?_ ?_<;>intro c3 h
 ·refine goL ?_
  refine gA7 u_1 ?_
  obtain⟨g4,h⟩:=mZ h
  refine gGg g4 ?_
  refine goL ?_
  obtain rfl:=Option.some.inj h
  exact hKe [] [.box [.sl 1 (v1+1)],.own 9 1 (v1+1) (gZ (l1++[u_1]))] ⟨(v1+1),rfl,rfl⟩
 ·refine gAi ?_
  show qW _ _ _ _ _ _
  obtain rfl:=Option.some.inj h
  exact hKe [] [.box [.sl 1 v1],.own 9 1 v1 (gZ l1)] ⟨v1,rfl,rfl⟩
def wX(rec_eachVars:gD→(List (List UInt8))→Option (List (List UInt8))):List gD→(List (List UInt8))→Option (List (List UInt8))
 | [],y3=>(some y3)
 | x8::xs,y3=>bnd (rec_eachVars x8 y3) fun x9=>
wX rec_eachVars xs x9
def gIp(rec_eachVars:gD→(List (List UInt8))→Option (List (List UInt8)))(u:gD)(l1:List (List UInt8)):Option (List (List UInt8)):=
bnd (gIa u l1) fun x1=>
wX rec_eachVars u.args x1
theorem gVt{rec_eachVars:gD→(List (List UInt8))→Option (List (List UInt8))}(hrec_eachVars:∀(x0:gD) (x1:List (List UInt8)) (w0:Nat) {r:List (List UInt8)},rec_eachVars x0 x1=some r→Go.Eng.Spec Tryz.prog 51 [.d (jP x0),.fn 52 [.ptr 0 0]] [.box [.sl 1 w0],.own 9 1 w0 (gZ x1)] (fun sv Lo=>∃v'1,sv=.tup []∧Lo=[.box [.sl 1 v'1],.own 9 1 v'1 (gZ r)]))(u:gD)(l1:List (List UInt8))(v1:Nat){r:List (List UInt8)}(h:gIp rec_eachVars u l1=some r):Go.Eng.Spec Tryz.prog 51 [.d (jP u),.fn 52 [.ptr 0 0]] [.box [.sl 1 v1],.own 9 1 v1 (gZ l1)] (fun sv Lo=>∃v'1,sv=.tup []∧Lo=[.box [.sl 1 v'1],.own 9 1 v'1 (gZ r)]):=by
 obtain⟨u_0,u_1,u_2⟩:=u
 unfold gIp at h
 refine mP 2 Tryz.func51 rfl (by kernel_rfl) rfl rfl fun A _=>?_
 refine goL ?_
 obtain⟨x1,hx1,h⟩:=gK h
 refine gG0 [0,1] (gZd (gD.mk u_0 u_1 u_2) l1 v1 hx1) ?_
 rintro _ _ ⟨v2,rfl,rfl⟩
 show VO _ _ _ _ ⟨(_,.tup [])::_,[.box [.sl 1 v2],.own 9 1 v2 (gZ x1),.box [.I u_0,.S u_1,.L 3 (gJ u_2)]],_⟩ _
 refine goL ?_
 refine noB ?_
 refine gFj 10 (fun z6=>?_)
 refine kR (fun(y5:Nat) (y3:List (List UInt8)) (v4:Nat)=>⟨[(1,.fn 52 [.ptr 0 0]),(10,.L 3 (gJ u_2)),(11,.I (u_2.length:Int)),(12,.N y5)],[.box [.sl 1 v4],.own 9 1 v4 (gZ y3),.box [.I u_0,.S u_1,.L 3 (gJ u_2)]],Tryz.f51.ntmps⟩) (fun y5 y3 v4=>wX rec_eachVars (u_2.drop y5) y3=some r) (fun y5 y3 v4=>u_2.length - y5) 0 x1 v2 eJ h ?_
 rintro y5 y3 v4 h
 refine goL ?_
 refine kI (mO (fun c7=>?_) (fun c7=>?_))
 ·have hky52:=wE c7
  obtain⟨x8,hx8,hdx8⟩:=drop_at hky52
  rw [hdx8,wX.eq_2] at h
  obtain⟨x8_0,x8_1,x8_2⟩:=x8
  refine noS ?_
  refine kI (jE ?_)
  refine goL ?_
  refine jI (jJ y5 (gBb hx8)) ?_
  obtain⟨x9,hx9,h⟩:=gK h
  refine gG0 [0,1] (hrec_eachVars (gD.mk x8_0 x8_1 x8_2) y3 v4 hx9) ?_
  rintro _ _ ⟨v10,rfl,rfl⟩
  show VO _ _ _ _ ⟨(_,.tup [])::_,[.box [.sl 1 v10],.own 9 1 v10 (gZ x9),.box [.I u_0,.S u_1,.L 3 (gJ u_2)],.box [.I x8_0,.S x8_1,.L 3 (gJ x8_2)]],_⟩ _
  refine goL ?_
  refine jI (jS y5 (by omega)) ?_
  exact⟨(y5+1),x9,v10,h,by omega,eJ⟩
 ·have hky52:=wF c7
  rw [jF hky52,wX.eq_1] at h
  refine gQz ?_
  show qW _ _ _ _ _ _
  obtain rfl:=Option.some.inj h
  exact hKe [] [.box [.sl 1 v4],.own 9 1 v4 (gZ y3)] ⟨v4,rfl,rfl⟩
def gEo:Nat→gD→(List (List UInt8))→Option (List (List UInt8))
 | 0,_,_=>none
 | n+1,x0,x1=>gIp (gEo n) x0 x1
theorem gVu:∀(n:Nat) (x0:gD) (x1:List (List UInt8)) (w0:Nat) {r:List (List UInt8)},gEo n x0 x1=some r→Go.Eng.Spec Tryz.prog 51 [.d (jP x0),.fn 52 [.ptr 0 0]] [.box [.sl 1 w0],.own 9 1 w0 (gZ x1)] (fun sv Lo=>∃v'1,sv=.tup []∧Lo=[.box [.sl 1 v'1],.own 9 1 v'1 (gZ r)]):=by
 intro n
 induction n with
 | zero=>intro x0 x1 w0 r h;cases h
 | succ n ih=>intro x0 x1 w0 r h;exact gVt ih x0 x1 w0 h
def gI0(k:Int)(n:List UInt8)(l:List (List UInt8)):List (List UInt8):=if k=1∧n∉l then l++[n] else l
mutual
def gHj:gD→List (List UInt8)→List (List UInt8)
 | ⟨k,n,ts⟩,l=>gF3 ts (gI0 k n l)
def gF3:List gD→List (List UInt8)→List (List UInt8)
 | [],l=>l
 | a::ts,l=>gF3 ts (gHj a l)
end
theorem gOl(k:Int)(n:List UInt8)(l:List (List UInt8)):(gI0 k n l).length≤l.length+1:=by
 unfold gI0
 split
 ·simp
 ·omega
mutual
theorem gNm:∀(t:gD) (l:List (List UInt8)),(gHj t l).length≤l.length+tnd t
 | ⟨k,n,ts⟩,l=>by
   simp only [gHj,tnd]
   have h1:=gOm ts (gI0 k n l)
   have h2:=gOl k n l
   omega
theorem gOm:∀(ts:List gD) (l:List (List UInt8)),(gF3 ts l).length≤l.length+gA8 ts
 | [],l=>by simp [gF3]
 | a::ts,l=>by
   simp only [gF3,gA8]
   have h1:=gOm ts (gHj a l)
   have h2:=gNm a l
   omega
end
theorem gOn(a:List UInt8):∀(l:List (List UInt8)) (k:Nat),0≤wN a l k↔a∈l
 | [],k=>by simp [wN]
 | x::l,k=>by
   by_cases h:a=x
   ·subst h
    simp [wN,cnd]
   ·have h1:(a==x)=false:=by simpa using h
    have h2:wN a (x::l) k=wN a l (k+1):=by simp [wN,h1,cnd]
    rw [h2,gOn a l (k+1)]
    simp [h]
theorem gR0(l:List (List UInt8))(a:List UInt8):gC2 l a=decide (a∈l):=by
 unfold gC2 gKd
 exact decide_eq_decide.2 (gOn a l 0)
theorem gVv(u:gD)(l:List (List UInt8))(h:l.length+1≤4294967296):gIa u l=some (gI0 u.kind u.name l):=by
 unfold gIa lt_ gI0
 rw [gR0]
 by_cases h1:u.kind=1
 ·by_cases h2:u.name∈l
  ·simp [h1,h2,cnd]
  ·simp only [h1,h2,decide_false,Bool.not_false,beq_self_eq_true,jH,not_false_eq_true,and_self,if_true]
   rw [pF (by simpa using h)]
 ·have:(u.kind==1)=false:=by simpa using h1
  simp [this,h1,cnd]
theorem gI1{n:Nat}(ih:∀(t:gD) (l:List (List UInt8)),tnd t≤n→l.length+tnd t≤4294967296→gEo n t l=some (gHj t l)) :
  ∀(xs:List gD) (l:List (List UInt8)),gA8 xs≤n→l.length+gA8 xs≤4294967296→wX (gEo n) xs l=some (gF3 xs l)
 | [],l,_,_=>by simp [wX,gF3]
 | x::xs,l,h1,h2=>by
   simp only [gA8] at h1 h2
   simp only [wX,gF3]
   rw [ih x l (by omega) (by omega)]
   have:=gNm x l
   exact gI1 ih xs _ (by omega) (by omega)
theorem gNn:∀(n:Nat) (t:gD) (l:List (List UInt8)),tnd t≤n→l.length+tnd t≤4294967296→gEo n t l=some (gHj t l)
 | 0,⟨k,nm,ts⟩,l,h,_=>by simp only [tnd] at h;omega
 | n+1,⟨k,nm,ts⟩,l,h1,h2=>by
   simp only [tnd] at h1 h2
   simp only [gEo,gIp,gHj]
   rw [gVv _ _ (by omega)]
   have:=gOl k nm l
   exact gI1 (gNn n) ts (gI0 k nm l) (by omega) (by omega)
theorem gVw(x0:gD)(x1:List (List UInt8))(w0:Nat)(h:x1.length+tnd x0≤4294967296):Go.Eng.Spec Tryz.prog 51 [.d (jP x0),.fn 52 [.ptr 0 0]] [.box [.sl 1 w0],.own 9 1 w0 (gZ x1)] (fun sv Lo=>∃v'1,sv=.tup []∧Lo=[.box [.sl 1 v'1],.own 9 1 v'1 (gZ (gHj x0 x1))]):=gVu (tnd x0) x0 x1 w0 (gNn _ _ _ (Nat.le_refl _) h)
def wR:List gD→(List (List UInt8))→Option (List (List UInt8))
 | [],y1=>(some y1)
 | x6::xs,y1=>gd (y1.length+tnd x6≤4294967296) (lt_ (gHj x6 y1) fun x7=>
wR xs x7)
def gEk(a0:List gD):Option (List (List UInt8)):=
wR a0 []
theorem gQa(a0:List gD){r:List (List UInt8)}(h:gEk a0=some r):kX Tryz.prog 33 [.L 3 (gJ a0)] [9] [.sl 1 (gZ r)]:=by
 unfold gEk at h
 refine qI Tryz.func33 rfl (by kernel_rfl) rfl (by simp) fun A _=>?_
 refine goL ?_
 refine gFc ?_
 refine goL ?_
 refine noB ?_
 refine gFj 7 (fun z4=>?_)
 refine kR (fun(y3:Nat) (y1:List (List UInt8)) (v2:Nat)=>⟨[(3,.ptr 1 0),(7,.L 3 (gJ a0)),(8,.I (a0.length:Int)),(9,.N y3)],[.own 9 1 v2 (gZ y1),.box [.sl 0 v2]],Tryz.f33.ntmps⟩) (fun y3 y1 v2=>wR (a0.drop y3) y1=some r) (fun y3 y1 v2=>a0.length - y3) 0 [] 0 eJ h ?_
 rintro y3 y1 v2 h
 refine goL ?_
 refine kI (mO (fun c5=>?_) (fun c5=>?_))
 ·have hky32:=wE c5
  obtain⟨x6,hx6,hdx6⟩:=drop_at hky32
  rw [hdx6,wR.eq_2] at h
  obtain⟨x6_0,x6_1,x6_2⟩:=x6
  refine noS ?_
  refine kI (jE ?_)
  refine goL ?_
  refine jI (jJ y3 (gBb hx6)) ?_
  refine qP (hLa) ?_
  obtain⟨g8,h⟩:=mZ h
  obtain⟨x7,hx7,h⟩:=qR h
  have sx7:=gVw (gD.mk x6_0 x6_1 x6_2) y1 v2 g8
  rw [hx7] at sx7
  refine gG0 [1,0] (sx7) ?_
  rintro _ _ ⟨v9,rfl,rfl⟩
  show VO _ _ _ _ ⟨(_,.tup [])::_,[.own 9 1 v9 (gZ x7),.box [.sl 0 v9],.box [.I x6_0,.S x6_1,.L 3 (gJ x6_2)]],_⟩ _
  refine goL ?_
  refine jI (jS y3 (by omega)) ?_
  exact⟨(y3+1),x7,v9,h,by omega,eJ⟩
 ·have hky32:=wF c5
  rw [jF hky32,wR.eq_1] at h
  refine goX ?_
  refine jN ?_
  obtain rfl:=Option.some.inj h
  exact gPi
def gAr(a0:gD):Option (List (List UInt8)):=
bnd (gEk [a0]) fun x1=>
(some x1)
theorem gNo(a0:gD){r:List (List UInt8)}(h:gAr a0=some r):kX Tryz.prog 17 [.d (jP a0)] [9] [.sl 1 (gZ r)]:=by
 obtain⟨a0_0,a0_1,a0_2⟩:=a0
 unfold gAr at h
 refine qI Tryz.func17 rfl (by kernel_rfl) rfl (by simp) fun A _=>?_
 refine goL ?_
 refine gBc (u:=(.st [.i .i64 a0_0,.s a0_1,.sl 3 (gJ a0_2)])) ?_
 obtain⟨x1,hx1,h⟩:=gK h
 refine gJd (gQa [(gD.mk a0_0 a0_1 a0_2)] hx1) ?_
 refine goL ?_
 refine jN ?_
 obtain rfl:=Option.some.inj h
 exact gPi
def gGn(a0:Int):Bool:=
lt_ ((cnd (decide (a0≥48)) ((decide (a0≤57))) (false))) fun b1=>
b1
theorem gZe(a0:Int):jB Tryz.prog 34 [.d (.i .u8 a0)] [.b (gGn a0)]:=by
 obtain⟨r,h⟩:∃r,gGn a0=r:=⟨_,rfl⟩
 rw [h]
 unfold gGn at h
 refine SpI Tryz.func34 fun A _=>?_
 refine goL ?_
 obtain⟨b1,hb1,h⟩:=qR h
 refine jU ⟨[(2,.B b1)],[],Tryz.f34.ntmps⟩ ?_ ?_
 ·refine gN 5 (fun c2=>?_) (fun c2=>?_)
  ·replace hb1:=gX c2 hb1
   refine goL ?_
   cases hb1
   exact eJ
  ·replace hb1:=gY c2 hb1
   refine goL ?_
   cases hb1
   exact eJ
 refine goL ?_
 refine jN ?_
 subst h
 exact qK
def vL:List UInt8→Option (Bool)
 | []=>(some true)
 | x11::xs=>(cnd (!(gGn (x11.toNat:Int))) (
(some false)) (
vL xs ))
def gA5(a0:List UInt8):Option (Bool):=
bnd ((cnd (decide ((a0.length:Int) < 2)) ((some true)) (bnd (at? a0 0) fun x3=>
(cnd ((x3.toNat:Int) != 63) ((some true)) ((cnd (decide ((a0.length:Int) > 2)) (bnd (at? a0 1) fun x6=>
(some ((x6.toNat:Int)==48))) ((some false)))))))) fun b1=>
(cnd b1 (
(some false)) (
vL (a0.drop 1) ))
theorem gQb(a0:List UInt8){r:Bool}(h:gA5 a0=some r):jB Tryz.prog 18 [.S a0] [.b r]:=by
 unfold gA5 at h
 refine SpI Tryz.func18 fun A _=>?_
 refine goL ?_
 obtain⟨b1,hb1,h⟩:=gK h
 refine jU ⟨[(0,.S a0),(21,.B b1)],[],Tryz.f18.ntmps⟩ ?_ ?_
 ·refine gN 7 (fun c2=>?_) (fun c2=>?_)
  ·replace hb1:=gX c2 hb1
   refine goL ?_
   cases hb1
   exact eJ
  ·replace hb1:=gY c2 hb1
   refine goL ?_
   refine uD ?_
   obtain⟨x3,hx3,hb1⟩:=gK hb1
   obtain⟨hx30,hx3⟩:=gD6 hx3
   refine jI (gGe hx30 hx3) ?_
   refine gN 12 (fun c4=>?_) (fun c4=>?_)
   ·replace hb1:=gX c4 hb1
    refine goL ?_
    cases hb1
    exact eJ
   ·replace hb1:=gY c4 hb1
    refine goL ?_
    refine gN 16 (fun c5=>?_) (fun c5=>?_)
    ·replace hb1:=gX c5 hb1
     refine goL ?_
     refine uD ?_
     obtain⟨x6,hx6,hb1⟩:=gK hb1
     obtain⟨hx60,hx6⟩:=gD6 hx6
     refine jI (gGe hx60 hx6) ?_
     cases hb1
     exact eJ
    ·replace hb1:=gY c5 hb1
     refine goL ?_
     cases hb1
     exact eJ
 refine goC h ?_ ?_<;>intro c7 h
 ·exact goR h
 ·refine goS ?_
  refine noB ?_
  refine gXm 0 (fun z9=>?_)
  refine pJ (fun(y8:Nat)=>⟨[(0,.S a0),(3,.N y8)],[],Tryz.f18.ntmps⟩) (fun y8=>vL (a0.drop y8)  =some r) (fun y8=>a0.length - y8) 1 eJ h ?_
  rintro y8 h
  refine goL ?_
  refine mO (fun c10=>?_) (fun c10=>?_)
  ·have hky82:=hFr c10
   obtain⟨x11,hx11,hdx11⟩:=drop_at hky82
   rw [hdx11,vL.eq_2] at h
   refine noS ?_
   refine kI (jE ?_)
   refine goL ?_
   refine qP (gD2 y8 hx11) ?_
   refine jI (gF (gZe (x11.toNat:Int))) ?_
   refine mO (fun c12=>?_) (fun c12=>?_)
   ·replace h:=gX c12 h
    exact goR h
   ·replace h:=gY c12 h
    refine goS ?_
    refine jI (jS y8 (by omega)) ?_
    exact⟨(y8+1),h,by omega,eJ⟩
  ·have hky82:=hFs c10
   rw [jF hky82,vL.eq_1] at h
   refine goX ?_
   refine jN ?_
   cases h
   exact qK
def gAs:List UInt8→Option (Bool)
 | []=>(some true)
 | x12::xs=>lt_ ((cnd (decide ((x12.toNat:Int) < 48)) (true) ((decide ((x12.toNat:Int) > 57))))) fun b13=>
(cnd b13 (
(some false)) (
gAs xs ))
def gDw(a0:gD):Option (Bool):=
bnd ((cnd (a0.kind != 1) ((some true)) ((cnd (decide ((a0.name.length:Int) < 2)) ((some true)) (bnd (at? a0.name 0) fun x4=>
(cnd ((x4.toNat:Int) != 63) ((some true)) (bnd (at? a0.name 1) fun x6=>
(cnd ((x6.toNat:Int)==48) ((some (decide ((a0.name.length:Int) > 2)))) ((some false)))))))))) fun b1=>
(cnd b1 (
(some false)) (
gAs (a0.name.drop 1) ))
theorem gKe(a0:gD){r:Bool}(h:gDw a0=some r):jB Tryz.prog 60 [.d (jP a0)] [.b r]:=by
 obtain⟨a0_0,a0_1,a0_2⟩:=a0
 unfold gDw at h
 refine SpI Tryz.func60 fun A _=>?_
 refine goL ?_
 obtain⟨b1,hb1,h⟩:=gK h
 refine jU ⟨[(1,.ptr 0 0),(3,.I (a0_1.length:Int)),(30,.B b1)],[.box [.I a0_0,.S a0_1,.L 3 (gJ a0_2)]],Tryz.f60.ntmps⟩ ?_ ?_
 ·refine gN 11 (fun c2=>?_) (fun c2=>?_)
  ·replace hb1:=gX c2 hb1
   refine goL ?_
   cases hb1
   exact eJ
  ·replace hb1:=gY c2 hb1
   refine goL ?_
   refine gN 15 (fun c3=>?_) (fun c3=>?_)
   ·replace hb1:=gX c3 hb1
    refine goL ?_
    cases hb1
    exact eJ
   ·replace hb1:=gY c3 hb1
    refine goL ?_
    refine uD ?_
    obtain⟨x4,hx4,hb1⟩:=gK hb1
    obtain⟨hx40,hx4⟩:=gD6 hx4
    refine jI (gGe hx40 hx4) ?_
    refine gN 21 (fun c5=>?_) (fun c5=>?_)
    ·replace hb1:=gX c5 hb1
     refine goL ?_
     cases hb1
     exact eJ
    ·replace hb1:=gY c5 hb1
     refine goL ?_
     refine uD ?_
     obtain⟨x6,hx6,hb1⟩:=gK hb1
     obtain⟨hx60,hx6⟩:=gD6 hx6
     refine jI (gGe hx60 hx6) ?_
     refine gN 26 (fun c7=>?_) (fun c7=>?_)
     ·replace hb1:=gX c7 hb1
      refine goL ?_
      cases hb1
      exact eJ
     ·replace hb1:=gY c7 hb1
      refine goL ?_
      cases hb1
      exact eJ
 refine goC h ?_ ?_<;>intro c8 h
 ·exact goR h
 ·refine goS ?_
  refine noB ?_
  refine hGq 0 1 (fun z10=>?_)
  refine pJ (fun(y9:Nat)=>⟨[(1,.ptr 0 0),(3,.I (a0_1.length:Int)),(4,.N y9)],[.box [.I a0_0,.S a0_1,.L 3 (gJ a0_2)]],Tryz.f60.ntmps⟩) (fun y9=>gAs (a0_1.drop y9)  =some r) (fun y9=>a0_1.length - y9) 1 eJ h ?_
  rintro y9 h
  refine goL ?_
  refine mO (fun c11=>?_) (fun c11=>?_)
  ·have hky92:=hFr c11
   obtain⟨x12,hx12,hdx12⟩:=drop_at hky92
   rw [hdx12,gAs.eq_2] at h
   refine noS ?_
   refine kI (jE ?_)
   refine goL ?_
   refine jI (gD2 y9 hx12) ?_
   obtain⟨b13,hb13,h⟩:=qR h
   refine jU ⟨[(1,.ptr 0 0),(3,.I (a0_1.length:Int)),(4,.N y9),(47,.B b13)],[.box [.I a0_0,.S a0_1,.L 3 (gJ a0_2)]],Tryz.f60.ntmps⟩ ?_ ?_
   ·refine gN 41 (fun c14=>?_) (fun c14=>?_)
    ·replace hb13:=gX c14 hb13
     refine goL ?_
     cases hb13
     exact eJ
    ·replace hb13:=gY c14 hb13
     refine goL ?_
     refine uD ?_
     refine jI (gD2 y9 hx12) ?_
     cases hb13
     exact eJ
   refine goC h ?_ ?_<;>intro c15 h
   ·exact goR h
   ·refine goS ?_
    refine jI (jS y9 (by omega)) ?_
    exact⟨(y9+1),h,by omega,eJ⟩
  ·have hky92:=hFs c11
   rw [jF hky92,gAs.eq_1] at h
   refine goX ?_
   refine jN ?_
   cases h
   exact qK
def dig(b:UInt8):Bool:=decide (48≤b.toNat) && decide (b.toNat≤57)
def isInf:List UInt8→Bool
 | b0::b1::l=>(b0.toNat==63) && !(b1.toNat==48 && !l.isEmpty) && (b1::l).all dig
 | _=>false
theorem gVx(b:UInt8):gGn (b.toNat:Int)=dig b:=by
 unfold gGn lt_ dig
 rw [gXd]
 by_cases h1:48≤b.toNat
 ·have h3:(decide ((b.toNat:Int)≥48))=true:=decide_eq_true (by omega)
  rw [h3]
  simp [h1]
  omega
 ·have h3:(decide ((b.toNat:Int)≥48))=false:=by simp;omega
  rw [h3]
  simp [h1]
theorem gNp:∀(l:List UInt8),vL l=some (l.all dig)
 | []=>rfl
 | b::l=>by
   simp only [vL,gVx,List.all_cons]
   cases h:dig b with
   | true=>simp [cnd,gNp l]
   | false=>simp [cnd]
theorem gKf:∀(l:List UInt8),gAs l=some (l.all dig)
 | []=>rfl
 | b::l=>by
   simp only [gAs,lt_,List.all_cons]
   have key:(cnd (decide ((b.toNat:Int) < 48)) true (decide ((b.toNat:Int) > 57)))= !dig b:=by
    unfold dig
    rw [gXd]
    by_cases h1:b.toNat < 48
    ·have h3:(decide ((b.toNat:Int) < 48))=true:=decide_eq_true (by omega)
     rw [h3]
     have:¬48≤b.toNat:=by omega
     simp [this]
    ·have h3:(decide ((b.toNat:Int) < 48))=false:=by simp;omega
     rw [h3]
     have:48≤b.toNat:=by omega
     simp only [Bool.false_eq_true,if_false,this,decide_true,Bool.true_and]
     by_cases h2:b.toNat≤57
     ·simp [h2];omega
     ·simp [h2];omega
   rw [key]
   cases h:dig b with
   | true=>simp [cnd,gKf l]
   | false=>simp [cnd]
theorem gN3(s:List UInt8):gA5 s=some (isInf s):=by
 match s with
 | []=>rfl
 | [a]=>rfl
 | b0::b1::l=>
   unfold gA5
   have h1:decide (((b0::b1::l).length:Int) < 2)=false:=by simp;omega
   have e0:at? (b0::b1::l) 0=some b0:=rfl
   have e1:at? (b0::b1::l) 1=some b1:=rfl
   rw [h1,e0,e1]
   simp only [gP,bnd,isInf]
   by_cases h2:b0.toNat=63
   ·have h3:((b0.toNat:Int) != 63)=false:=by simp [h2]
    have h4:(b0.toNat==63)=true:=by simp [h2]
    rw [h3,h4]
    simp only [gP,Bool.true_and,List.drop_succ_cons,List.drop_zero,gNp]
    cases l with
    | nil=>simp [cnd]
    | cons b2 l=>
      have h5:decide (((b0::b1::b2::l).length:Int) > 2)=true:=by simp;omega
      rw [h5]
      simp only [jH,List.isEmpty_cons,Bool.not_false,Bool.and_true]
      by_cases h6:b1.toNat=48
      ·have h7:((b1.toNat:Int)==48)=true:=by simp [h6]
       have h8:(b1.toNat==48)=true:=by simp [h6]
       rw [h7,h8]
       rfl
      ·have h7:((b1.toNat:Int)==48)=false:=by simp;omega
       have h8:(b1.toNat==48)=false:=by simp [h6]
       rw [h7,h8]
       simp [cnd]
   ·have h3:((b0.toNat:Int) != 63)=true:=by simp;omega
    have h4:(b0.toNat==63)=false:=by simp [h2]
    rw [h3,h4]
    rfl
theorem gIq(t:gD):gDw t=some ((t.kind==1) && isInf t.name):=by
 obtain⟨k,s,ts⟩:=t
 unfold gDw
 by_cases hk:k=1
 ·have h0:(k != 1)=false:=by simp [hk]
  have h0':(k==1)=true:=by simp [hk]
  simp only [h0,h0',gP,Bool.true_and]
  match s with
  | []=>rfl
  | [a]=>rfl
  | b0::b1::l=>
    have h1:decide (((b0::b1::l).length:Int) < 2)=false:=by simp;omega
    have e0:at? (b0::b1::l) 0=some b0:=rfl
    have e1:at? (b0::b1::l) 1=some b1:=rfl
    rw [h1,e0,e1]
    simp only [gP,bnd,isInf]
    by_cases h2:b0.toNat=63
    ·have h3:((b0.toNat:Int) != 63)=false:=by simp [h2]
     have h4:(b0.toNat==63)=true:=by simp [h2]
     rw [h3,h4]
     simp only [gP,Bool.true_and,List.drop_succ_cons,List.drop_zero,gKf]
     by_cases h6:b1.toNat=48
     ·have h7:((b1.toNat:Int)==48)=true:=by simp [h6]
      have h8:(b1.toNat==48)=true:=by simp [h6]
      rw [h7,h8]
      cases l with
      | nil=>simp [cnd]
      | cons b2 l=>
        have h5:decide (((b0::b1::b2::l).length:Int) > 2)=true:=by simp;omega
        rw [h5]
        rfl
     ·have h7:((b1.toNat:Int)==48)=false:=by simp;omega
      have h8:(b1.toNat==48)=false:=by simp [h6]
      rw [h7,h8]
      simp [cnd]
    ·have h3:((b0.toNat:Int) != 63)=true:=by simp;omega
     have h4:(b0.toNat==63)=false:=by simp [h2]
     rw [h3,h4]
     rfl
 ·have h0:(k != 1)=true:=by simp [hk]
  have h0':(k==1)=false:=by simp [hk]
  simp only [h0,h0']
  rfl
end Go.Proofs.YtfaplndgbgoaaaaGreatDoor
set_option maxHeartbeats 4000000
set_option linter.unusedVariables false
set_option linter.unusedSimpArgs false
set_option linter.unusedSectionVars false
namespace Go.Proofs.YtfaplndgbgoaaaaGreatDoor
open Go Go.Eng
attribute [local irreducible] V VO VQ VY Quiet QR jB kX Rng uJ uY qW
theorem wrap_small{m:Int}(h1: -4611686018427387904≤m)(h2:m≤4611686018427387904):IntKind.i64.wrap m=m:=by
 exact wP m (by omega) (by omega)
mutual
theorem gDx:∀(t:gD),tnd t≤4294967297→tsz t=tnd t
 | ⟨k,n,ts⟩,h=>by
   simp only [tnd] at h
   simp only [tsz,tnd]
   rw [gOo ts 1 (by omega) (by omega)]
   omega
theorem gOo:∀(ts:List gD) (y:Int),0≤y→y+gA8 ts≤4294967297→hEw ts y=y+gA8 ts
 | [],y,_,_=>by simp [hEw,gA8]
 | a::ts,y,h0,h=>by
   simp only [gA8] at h
   simp only [hEw,gA8]
   rw [gDx a (by omega),wrap_small (by omega) (by omega),gOo ts _ (by omega) (by omega)]
   omega
end
def zJ(rec_l32Bound:(List gI)→gD→Option (Bool))(a0:List gI):List gD→Option (Bool)
 | []=>(some false)
 | x8::xs=>bnd (rec_l32Bound a0 x8) fun x9=>
(cnd x9 (
(some true)) (
zJ rec_l32Bound a0 xs ))
def zK(rec_l32Bound:(List gI)→gD→Option (Bool))(a0:List gI):List gD→Option (Bool)
 | []=>(some false)
 | x14::xs=>bnd (rec_l32Bound a0 x14) fun x15=>
(cnd x15 (
(some true)) (
zK rec_l32Bound a0 xs ))
def gIr(rec_l32Bound:(List gI)→gD→Option (Bool))(a0:List gI)(a1:gD):Option (Bool):=
bnd (gDw a1) fun x1=>
(cnd x1 (
bnd (gDv a0 a1.name) fun x3=>
(cnd x3.2 (
(some true)) (
zJ rec_l32Bound a0 a1.args ))) (
zK rec_l32Bound a0 a1.args ))
theorem gVy{rec_l32Bound:(List gI)→gD→Option (Bool)}(hrec_l32Bound:∀(x0:List gI) (x1:gD) {r:Bool},rec_l32Bound x0 x1=some r→jB Tryz.prog 72 [.L 4 (gQ x0),.d (jP x1)] [.b r])(a0:List gI)(a1:gD){r:Bool}(h:gIr rec_l32Bound a0 a1=some r):jB Tryz.prog 72 [.L 4 (gQ a0),.d (jP a1)] [.b r]:=by
 obtain⟨a1_0,a1_1,a1_2⟩:=a1
 unfold gIr at h
 refine SpI Tryz.func72 fun A _=>?_
 refine goL ?_
 obtain⟨x1,hx1,h⟩:=gK h
 refine jI (gF (gKe (gD.mk a1_0 a1_1 a1_2) hx1)) ?_
 refine mO (fun c2=>?_) (fun c2=>?_)
 ·replace h:=gX c2 h
  refine goL ?_
  obtain⟨⟨⟨x3_0_0,x3_0_1,x3_0_2⟩,x3_1⟩,hx3,h⟩:=gK h
  refine jI (gF ((gNh a0 a1_1 hx3).p)) ?_
  refine mO (fun c4=>?_) (fun c4=>?_)
  ·replace h:=gX c4 h
   exact goR h
  ·replace h:=gY c4 h
   refine goS ?_
   refine noB ?_
   refine vN 0 2 (fun z6=>?_)
   refine pJ (fun(y5:Nat)=>⟨[(0,.L 4 (gQ a0)),(3,.ptr 0 0),(7,.N y5)],[.box [.I a1_0,.S a1_1,.L 3 (gJ a1_2)],.box [.I x3_0_0,.S x3_0_1,.L 3 (gJ x3_0_2)]],Tryz.f72.ntmps⟩) (fun y5=>zJ rec_l32Bound a0 (a1_2.drop y5)  =some r) (fun y5=>a1_2.length - y5) 0 eJ h ?_
   rintro y5 h
   refine goL ?_
   refine mO (fun c7=>?_) (fun c7=>?_)
   ·have hky52:=wE c7
    obtain⟨x8,hx8,hdx8⟩:=drop_at hky52
    rw [hdx8,zJ.eq_2] at h
    obtain⟨x8_0,x8_1,x8_2⟩:=x8
    refine noS ?_
    refine kI (jE ?_)
    refine goL ?_
    refine jI (jJ y5 (gBb hx8)) ?_
    obtain⟨x9,hx9,h⟩:=gK h
    refine jI (gF (hrec_l32Bound a0 (gD.mk x8_0 x8_1 x8_2) hx9)) ?_
    refine mO (fun c10=>?_) (fun c10=>?_)
    ·replace h:=gX c10 h
     exact goR h
    ·replace h:=gY c10 h
     refine goS ?_
     refine jI (jS y5 (by omega)) ?_
     exact⟨(y5+1),h,by omega,eJ⟩
   ·have hky52:=wF c7
    rw [jF hky52,zJ.eq_1] at h
    refine goX ?_
    refine jN ?_
    cases h
    exact qK
 ·replace h:=gY c2 h
  refine goS ?_
  refine noB ?_
  refine vN 0 2 (fun z12=>?_)
  refine pJ (fun(y11:Nat)=>⟨[(0,.L 4 (gQ a0)),(3,.ptr 0 0),(7,.N y11)],[.box [.I a1_0,.S a1_1,.L 3 (gJ a1_2)]],Tryz.f72.ntmps⟩) (fun y11=>zK rec_l32Bound a0 (a1_2.drop y11)  =some r) (fun y11=>a1_2.length - y11) 0 eJ h ?_
  rintro y11 h
  refine goL ?_
  refine mO (fun c13=>?_) (fun c13=>?_)
  ·have hky112:=wE c13
   obtain⟨x14,hx14,hdx14⟩:=drop_at hky112
   rw [hdx14,zK.eq_2] at h
   obtain⟨x14_0,x14_1,x14_2⟩:=x14
   refine noS ?_
   refine kI (jE ?_)
   refine goL ?_
   refine jI (jJ y11 (gBb hx14)) ?_
   obtain⟨x15,hx15,h⟩:=gK h
   refine jI (gF (hrec_l32Bound a0 (gD.mk x14_0 x14_1 x14_2) hx15)) ?_
   refine mO (fun c16=>?_) (fun c16=>?_)
   ·replace h:=gX c16 h
    exact goR h
   ·replace h:=gY c16 h
    refine goS ?_
    refine jI (jS y11 (by omega)) ?_
    exact⟨(y11+1),h,by omega,eJ⟩
  ·have hky112:=wF c13
   rw [jF hky112,zK.eq_1] at h
   refine goX ?_
   refine jN ?_
   cases h
   exact qK
def gGo:Nat→(List gI)→gD→Option (Bool)
 | 0,_,_=>none
 | n+1,x0,x1=>gIr (gGo n) x0 x1
theorem gVz:∀(n:Nat) (x0:List gI) (x1:gD) {r:Bool},gGo n x0 x1=some r→jB Tryz.prog 72 [.L 4 (gQ x0),.d (jP x1)] [.b r]:=by
 intro n
 induction n with
 | zero=>intro x0 x1 r h;cases h
 | succ n ih=>intro x0 x1 r h;exact gVy ih x0 x1 h
mutual
def gR4(p:List UInt8→Bool):gD→Bool
 | ⟨k,n,ts⟩=>((k==1) && p n) || gFm p ts
def gFm(p:List UInt8→Bool):List gD→Bool
 | []=>false
 | a::ts=>gR4 p a || gFm p ts
end
theorem gV0(p:List UInt8→Bool)(k:Int)(n:List UInt8)(l:List (List UInt8)):(gI0 k n l).any p=(l.any p || ((k==1) && p n)):=by
 unfold gI0
 by_cases hk:k=1
 ·by_cases hn:n∈l
  ·simp only [hn,not_true_eq_false,and_false,if_false,hk,beq_self_eq_true,Bool.true_and]
   cases h:p n with
   | false=>simp
   | true=>simp only [Bool.or_true];exact List.any_eq_true.2 ⟨n,hn,h⟩
  ·simp [hn,hk]
 ·simp [hk]
mutual
theorem gR1(p:List UInt8→Bool):∀(t:gD) (l:List (List UInt8)),(gHj t l).any p=(l.any p || gR4 p t)
 | ⟨k,n,ts⟩,l=>by
   simp only [gHj,gR4]
   rw [gOp p ts,gV0,Bool.or_assoc]
theorem gOp(p:List UInt8→Bool):∀(ts:List gD) (l:List (List UInt8)),(gF3 ts l).any p=(l.any p || gFm p ts)
 | [],l=>by simp [gF3,gFm]
 | a::ts,l=>by
   simp only [gF3,gFm]
   rw [gOp p ts,gR1 p a,Bool.or_assoc]
end
def hasB(l:List gI)(s:List UInt8):Bool:=l.any fun b=>b.var_==s
theorem gZf(v:List UInt8):∀(l:List gI),(lkp v l).2=hasB l v
 | []=>rfl
 | b::l=>by
   simp only [lkp,hasB,List.any_cons]
   cases hb:b.var_==v with
   | true=>rfl
   | false=>
     simp only [gP,Bool.false_or]
     exact gZf v l
def zp(l:List gI)(s:List UInt8):Bool:=isInf s && hasB l s
def zbd(l:List gI)(t:gD):Bool:=gR4 (zp l) t
theorem gI2{rec:List gI→gD→Option Bool}{l:List gI}:∀(xs:List gD),(∀x∈xs,rec l x=some (zbd l x))→zJ rec l xs=some (gFm (zp l) xs)
 | [],_=>rfl
 | x::xs,h=>by
   simp only [zJ,h x (by simp),bnd,gFm]
   rw [gI2 xs (fun y hy=>h y (by simp [hy]))]
   show cnd (gR4 (zp l) x) _ _=_
   cases gR4 (zp l) x<;>rfl
theorem gI3{rec:List gI→gD→Option Bool}{l:List gI}:∀(xs:List gD),(∀x∈xs,rec l x=some (zbd l x))→zK rec l xs=some (gFm (zp l) xs)
 | [],_=>rfl
 | x::xs,h=>by
   simp only [zK,h x (by simp),bnd,gFm]
   rw [gI3 xs (fun y hy=>h y (by simp [hy]))]
   show cnd (gR4 (zp l) x) _ _=_
   cases gR4 (zp l) x<;>rfl
theorem gNq:∀(n:Nat) (l:List gI) (t:gD),bok l→tnd t≤n→gGo n l t=some (zbd l t)
 | 0,l,⟨k,nm,ts⟩,_,h=>by simp only [tnd] at h;omega
 | n+1,l,⟨k,nm,ts⟩,hl,h=>by
   simp only [tnd] at h
   have ih:∀x∈ts,gGo n l x=some (zbd l x):=fun x hx=>gNq n l x hl (by have:=gCo hx;omega)
   simp only [gGo,gIr,gIq,bnd,gDv,gEh nm l hl,gI2 ts ih,gI3 ts ih,gZf]
   unfold zbd
   simp only [gR4,zp]
   cases k==1<;>cases isInf nm<;>cases hasB l nm<;>rfl
theorem gV1(x0:List gI)(x1:gD)(h:bok x0):jB Tryz.prog 72 [.L 4 (gQ x0),.d (jP x1)] [.b (zbd x0 x1)]:=gVz (tnd x1) x0 x1 (gNq _ _ _ h (Nat.le_refl _))
def gBr(a0:gG):Nat→Int→(List UInt8)→(List gD)→Int→Option (gD)
 | 0,y3,y4,y5,y6=>none
 | n7+1,y3,y4,y5,y6=>bnd ((cnd (decide (y6 < 60)) (gd (bok a0.bindings) ((cnd (zbd a0.bindings (gD.mk y3 y4 y5)) ((some (decide ((tsz (gD.mk y3 y4 y5)) < 4000)))) ((some false))))) ((some false)))) fun b8=>
(cnd b8 (
gd (bok a0.bindings∧tok (gD.mk y3 y4 y5)) (lt_ (apT a0.bindings (gD.mk y3 y4 y5)) fun x14=>
gBr a0 n7 x14.kind x14.name x14.args (IntKind.i64.wrap (y6+1)))) (
(some (gD.mk y3 y4 y5))))
def gL0(a0:gG)(a1:gD)(n0:Nat):Option (gD):=
gd (tok a1) (lt_ (idT a1) fun x2=>
gBr a0 n0 x2.kind x2.name x2.args 0)
theorem hCc(a0:gG)(a1:gD){n0:Nat}{r:gD}(h:gL0 a0 a1 n0=some r):jB Tryz.prog 57 [.d (mE a0),.d (jP a1)] [jP r]:=by
 obtain⟨a0_0,a0_1,a0_2,a0_3,a0_4,a0_5,a0_6,a0_7⟩:=a0
 obtain⟨a1_0,a1_1,a1_2⟩:=a1
 unfold gL0 at h
 refine SpI Tryz.func57 fun A _=>?_
 refine goL ?_
 obtain⟨g1,h⟩:=mZ h
 obtain⟨⟨x2_0,x2_1,x2_2⟩,hx2,h⟩:=qR h
 have sx2:=(yD (gD.mk a1_0 a1_1 a1_2) g1).p
 rw [hx2] at sx2
 refine jI (gF (sx2)) ?_
 refine noB ?_
 refine gSn (fun(n7:Nat) (y3:Int) (y4:List UInt8) (y5:List gD) (y6:Int)=>⟨[(2,.ptr 0 0),(3,.ptr 1 0),(4,.ptr 2 0),(5,.I y6)],[.box [.I a0_0,.I a0_1,.I a0_2,.L 4 (gQ a0_3),.L 7 (jY a0_4),.L 5 (jR a0_5),.I a0_6,.I a0_7],.box [.I y3,.S y4,.L 3 (gJ y5)],.box [.I 0,.S [],.nilsl]],Tryz.f57.ntmps⟩) (fun n7 y3 y4 y5 y6=>gBr (gG.mk a0_0 a0_1 a0_2 a0_3 a0_4 a0_5 a0_6 a0_7) n7 y3 y4 y5 y6=some r) (fun n7 y3 y4 y5 y6=>n7) n0 x2_0 x2_1 x2_2 0 eJ h ?_
 rintro n7 y3 y4 y5 y6 h
 rcases n7 with _ | n7
 ·cases h
 rw [gBr.eq_2] at h
 refine goL ?_
 obtain⟨b8,hb8,h⟩:=gK h
 refine jU ⟨[(2,.ptr 0 0),(3,.ptr 1 0),(4,.ptr 2 0),(5,.I y6),(20,.B b8)],[.box [.I a0_0,.I a0_1,.I a0_2,.L 4 (gQ a0_3),.L 7 (jY a0_4),.L 5 (jR a0_5),.I a0_6,.I a0_7],.box [.I y3,.S y4,.L 3 (gJ y5)],.box [.I 0,.S [],.nilsl]],Tryz.f57.ntmps⟩ ?_ ?_
 ·refine gN 10 (fun c9=>?_) (fun c9=>?_)
  ·replace hb8:=gX c9 hb8
   refine goL ?_
   refine uD ?_
   obtain⟨g10,hb8⟩:=mZ hb8
   refine jI (gF (gV1 a0_3 (gD.mk y3 y4 y5) g10)) ?_
   refine gN 16 (fun c11=>?_) (fun c11=>?_)
   ·replace hb8:=gX c11 hb8
    refine goL ?_
    refine uD ?_
    refine jI (gF (gG9 (gD.mk y3 y4 y5))) ?_
    cases hb8
    exact eJ
   ·replace hb8:=gY c11 hb8
    refine goL ?_
    cases hb8
    exact eJ
  ·replace hb8:=gY c9 hb8
   refine goL ?_
   cases hb8
   exact eJ
 refine goC h ?_ ?_<;>intro c12 h
 ·refine noS ?_
  refine kI (jE ?_)
  refine goL ?_
  obtain⟨g13,h⟩:=mZ h
  obtain⟨⟨x14_0,x14_1,x14_2⟩,hx14,h⟩:=qR h
  have sx14:=(gP1 a0_3 (gD.mk y3 y4 y5) g13).p
  rw [hx14] at sx14
  refine jI (gF (sx14)) ?_
  refine jI (qC) ?_
  exact⟨n7,x14_0,x14_1,x14_2,(IntKind.i64.wrap (y6+1)),h,Nat.lt_succ_self _,eJ⟩
 ·refine goX ?_
  refine jN ?_
  cases h
  exact qK
def zk(l:List gI):Nat→gD→gD
 | 0,t=>t
 | n+1,t=>cnd (zbd l t && decide (tsz t < 4000)) (zk l n (apT l t)) t
theorem gLh(t:gD)(h:tnd t≤4294967296):gAr t=some (gHj t []):=by
 unfold gAr gEk
 simp only [wR]
 rw [pF (by simpa using h)]
 rfl
theorem hDb(t:gD):gD.mk t.kind t.name t.args=t:=by cases t;rfl
theorem gNr(s:gG)(h1:bok s.bindings):∀(n k:Nat) (t:gD),k+n=60→tok t→gBr s (n+1) t.kind t.name t.args (k:Int)=some (zk s.bindings n t)
 | 0,k,t,hk,_=>by
   obtain rfl:k=60:=by omega
   simp only [gBr,zk,hDb]
   rfl
 | n+1,k,t,hk,h3=>by
   rw [gBr.eq_2,zk]
   simp only [hDb]
   have e0:decide ((k:Int) < 60)=true:=decide_eq_true (by omega)
   rw [e0,pF h1,pF ⟨h1,h3⟩]
   have e3:IntKind.i64.wrap ((k:Int)+1)=((k+1:Nat):Int):=by rw [wrap_small (by omega) (by omega)];omega
   have ih:=gNr s h1 n (k+1) (apT s.bindings t) (by omega) (gYr h1 t h3)
   simp only [lt_,e3,jH,ih]
   cases zbd s.bindings t<;>cases decide (tsz t < 4000)<;>rfl
def zkF(s:gG)(t:gD):gD:=zk s.bindings 60 t
theorem gZg(s:gG)(t:gD)(h1:bok s.bindings)(h3:tok t):gL0 s t 61=some (zkF s t):=by
 unfold gL0
 rw [pF h3]
 exact gNr s h1 60 0 t rfl h3
theorem gUz(s:gG)(t:gD)(h:bok s.bindings∧tok t):jB Tryz.prog 57 [.d (mE s),.d (jP t)] [jP (zkF s t)]:=hCc s t (gZg s t h.1 h.2)
end Go.Proofs.YtfaplndgbgoaaaaGreatDoor
