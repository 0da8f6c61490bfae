import Derived.Test.YtfaplndgbgoaaaaGreatDoorEng38
import Derived.Test.YtfaplndgbgoaaaaGreatDoorEng67
import Derived.Test.YtfaplndgbgoaaaaGreatDoorZz
import Derived.Test.YtfaplndgbgoaaaaGreatDoorSfi0
set_option maxHeartbeats 4000000
set_option linter.unusedVariables false
set_option linter.unusedSimpArgs false
set_option linter.unusedSectionVars false
namespace Go.Proofs.YtfaplndgbgoaaaaGreatDoor
open Go Go.Eng
attribute [local irreducible] V VO VQ VY Quiet QR jB kX Rng uJ uY qW
def gCr(a1:List UInt8):List (List UInt8)→Bool
 | []=>false
 | x4::xs=>(cnd (x4==a1) (
true) (
gCr a1 xs ))
def vQ(a0:List (List UInt8))(a1:List UInt8):Bool:=
gCr a1 a0
theorem gDy(a0:List (List UInt8))(a1:List UInt8):jB Tryz.prog 103 [.L 1 (gZ a0),.S a1] [.b (vQ a0 a1)]:=by
 obtain⟨r,h⟩:∃r,vQ a0 a1=r:=⟨_,rfl⟩
 rw [h]
 unfold vQ at h
 refine SpI Tryz.func103 fun A _=>?_
 refine goL ?_
 refine noB ?_
 refine gFj 0 (fun z2=>?_)
 refine pJ (fun(y1:Nat)=>⟨[(0,.L 1 (gZ a0)),(1,.S a1),(5,.N y1)],[],Tryz.f103.ntmps⟩) (fun y1=>gCr a1 (a0.drop y1)  =r) (fun y1=>a0.length - y1) 0 eJ h ?_
 rintro y1 h
 refine goL ?_
 refine mO (fun c3=>?_) (fun c3=>?_)
 ·have hky12:=wE c3
  obtain⟨x4,hx4,hdx4⟩:=drop_at hky12
  rw [hdx4,gCr.eq_2] at h
  refine noS ?_
  refine kI (jE ?_)
  refine goL ?_
  refine jI (jJ y1 (gOe hx4)) ?_
  refine mO (fun c5=>?_) (fun c5=>?_)
  ·replace h:=gX c5 h
   refine goL ?_
   refine jN ?_
   subst h
   exact qK
  ·replace h:=gY c5 h
   refine goS ?_
   refine jI (jS y1 (by omega)) ?_
   exact⟨(y1+1),h,by omega,eJ⟩
 ·have hky12:=wF c3
  rw [jF hky12,gCr.eq_1] at h
  refine goX ?_
  refine jN ?_
  subst h
  exact qK
def gBj(rec_l4Vars:gD→(List (List UInt8))→Option (List (List UInt8))):List gD→(List (List UInt8))→Option (List (List UInt8))
 | [],y5=>(some y5)
 | x10::xs,y5=>bnd (rec_l4Vars x10 y5) fun x11=>
gBj rec_l4Vars xs x11
def gBk(rec_l4Vars:gD→(List (List UInt8))→Option (List (List UInt8))):List gD→(List (List UInt8))→Option (List (List UInt8))
 | [],y13=>(some y13)
 | x18::xs,y13=>bnd (rec_l4Vars x18 y13) fun x19=>
gBk rec_l4Vars xs x19
def gLk(rec_l4Vars:gD→(List (List UInt8))→Option (List (List UInt8)))(t:gD)(l0:List (List UInt8)):Option (List (List UInt8)):=
lt_ ((cnd (t.kind==1) ((!(vQ l0 t.name))) (false))) fun b1=>
(cnd b1 (
gd (l0.length+[t.name].length≤4294967296) (
gBj rec_l4Vars t.args (l0++[t.name]))) (
gBk rec_l4Vars t.args l0))
theorem gZq{rec_l4Vars:gD→(List (List UInt8))→Option (List (List UInt8))}(hrec_l4Vars:∀(x0:gD) (x1:List (List UInt8)) (w0:Nat) {r:List (List UInt8)},rec_l4Vars x0 x1=some r→Go.Eng.Spec Tryz.prog 182 [.d (jP x0),.sl 0 w0] [.own 9 1 w0 (gZ x1)] (fun sv Lo=>∃v'0,sv=.sl 0 v'0∧Lo=[.own 9 1 v'0 (gZ r)]))(t:gD)(l0:List (List UInt8))(v0:Nat){r:List (List UInt8)}(h:gLk rec_l4Vars t l0=some r):Go.Eng.Spec Tryz.prog 182 [.d (jP t),.sl 0 v0] [.own 9 1 v0 (gZ l0)] (fun sv Lo=>∃v'0,sv=.sl 0 v'0∧Lo=[.own 9 1 v'0 (gZ r)]):=by
 obtain⟨t_0,t_1,t_2⟩:=t
 unfold gLk at h
 refine mP 1 Tryz.func182 rfl (by kernel_rfl) rfl rfl fun A _=>?_
 refine goL ?_
 obtain⟨b1,hb1,h⟩:=qR h
 refine jU ⟨[(1,.sl 0 v0),(2,.ptr 1 0),(15,.B b1)],[.own 9 1 v0 (gZ l0),.box [.I t_0,.S t_1,.L 3 (gJ t_2)]],Tryz.f182.ntmps⟩ ?_ ?_
 ·refine gN 9 (fun c2=>?_) (fun c2=>?_)
  ·replace hb1:=gX c2 hb1
   refine goL ?_
   refine uD ?_
   refine gFl (gSj (gDy l0 t_1)) ?_
   cases hb1
   exact eJ
  ·replace hb1:=gY c2 hb1
   refine goL ?_
   cases hb1
   exact eJ
 refine goC h ?_ ?_<;>intro c3 h
 ·refine goL ?_
  refine gA7 t_1 ?_
  obtain⟨g4,h⟩:=mZ h
  refine gGg g4 ?_
  refine goL ?_
  refine noB ?_
  refine vN 1 2 (fun z8=>?_)
  refine kR (fun(y7:Nat) (y5:List (List UInt8)) (v6:Nat)=>⟨[(1,.sl 0 v6),(2,.ptr 1 0),(5,.N y7)],[.own 9 1 v6 (gZ y5),.box [.I t_0,.S t_1,.L 3 (gJ t_2)],.dead 1],Tryz.f182.ntmps⟩) (fun y7 y5 v6=>gBj rec_l4Vars (t_2.drop y7) y5=some r) (fun y7 y5 v6=>t_2.length - y7) 0 (l0++[t_1]) (v0+1) eJ h ?_
  rintro y7 y5 v6 h
  refine goL ?_
  refine mO (fun c9=>?_) (fun c9=>?_)
  ·have hky72:=wE c9
   obtain⟨x10,hx10,hdx10⟩:=drop_at hky72
   rw [hdx10,gBj.eq_2] at h
   obtain⟨x10_0,x10_1,x10_2⟩:=x10
   refine noS ?_
   refine kI (jE ?_)
   refine goL ?_
   refine jI (jJ y7 (gBb hx10)) ?_
   obtain⟨x11,hx11,h⟩:=gK h
   refine gG0 [0] (hrec_l4Vars (gD.mk x10_0 x10_1 x10_2) y5 v6 hx11) ?_
   rintro _ _ ⟨v12,rfl,rfl⟩
   show VO _ _ _ _ ⟨(_,.sl 0 v12)::_,[.own 9 1 v12 (gZ x11),.box [.I t_0,.S t_1,.L 3 (gJ t_2)],.dead 1],_⟩ _
   refine goL ?_
   refine jI (jS y7 (by omega)) ?_
   exact⟨(y7+1),x11,v12,h,by omega,eJ⟩
  ·have hky72:=wF c9
   rw [jF hky72,gBj.eq_1] at h
   refine goX ?_
   refine jN ?_
   obtain rfl:=Option.some.inj h
   exact gFk [.sl 0 v6] [.own 9 1 v6 (gZ y5)] ⟨v6,rfl,rfl⟩
 ·refine goS ?_
  refine noB ?_
  refine vN 1 2 (fun z16=>?_)
  refine kR (fun(y15:Nat) (y13:List (List UInt8)) (v14:Nat)=>⟨[(1,.sl 0 v14),(2,.ptr 1 0),(5,.N y15)],[.own 9 1 v14 (gZ y13),.box [.I t_0,.S t_1,.L 3 (gJ t_2)]],Tryz.f182.ntmps⟩) (fun y15 y13 v14=>gBk rec_l4Vars (t_2.drop y15) y13=some r) (fun y15 y13 v14=>t_2.length - y15) 0 l0 v0 eJ h ?_
  rintro y15 y13 v14 h
  refine goL ?_
  refine mO (fun c17=>?_) (fun c17=>?_)
  ·have hky152:=wE c17
   obtain⟨x18,hx18,hdx18⟩:=drop_at hky152
   rw [hdx18,gBk.eq_2] at h
   obtain⟨x18_0,x18_1,x18_2⟩:=x18
   refine noS ?_
   refine kI (jE ?_)
   refine goL ?_
   refine jI (jJ y15 (gBb hx18)) ?_
   obtain⟨x19,hx19,h⟩:=gK h
   refine gG0 [0] (hrec_l4Vars (gD.mk x18_0 x18_1 x18_2) y13 v14 hx19) ?_
   rintro _ _ ⟨v20,rfl,rfl⟩
   show VO _ _ _ _ ⟨(_,.sl 0 v20)::_,[.own 9 1 v20 (gZ x19),.box [.I t_0,.S t_1,.L 3 (gJ t_2)]],_⟩ _
   refine goL ?_
   refine jI (jS y15 (by omega)) ?_
   exact⟨(y15+1),x19,v20,h,by omega,eJ⟩
  ·have hky152:=wF c17
   rw [jF hky152,gBk.eq_1] at h
   refine goX ?_
   refine jN ?_
   obtain rfl:=Option.some.inj h
   exact gFk [.sl 0 v14] [.own 9 1 v14 (gZ y13)] ⟨v14,rfl,rfl⟩
def gJs:Nat→gD→(List (List UInt8))→Option (List (List UInt8))
 | 0,_,_=>none
 | n+1,x0,x1=>gLk (gJs n) x0 x1
theorem gZr:∀(n:Nat) (x0:gD) (x1:List (List UInt8)) (w0:Nat) {r:List (List UInt8)},gJs n x0 x1=some r→Go.Eng.Spec Tryz.prog 182 [.d (jP x0),.sl 0 w0] [.own 9 1 w0 (gZ x1)] (fun sv Lo=>∃v'0,sv=.sl 0 v'0∧Lo=[.own 9 1 v'0 (gZ r)]):=by
 intro n
 induction n with
 | zero=>intro x0 x1 w0 r h;cases h
 | succ n ih=>intro x0 x1 w0 r h;exact gZq ih x0 x1 w0 h
theorem gTd(a:List UInt8):∀l:List (List UInt8),gCr a l=decide (a∈l)
 | []=>rfl
 | x::l=>by
   simp only [gCr,gTd a l]
   by_cases h:x=a
   ·subst h;simp [jH]
   ·rw [beq_false_of_ne h]
    have h':¬a=x:=fun e=>h e.symm
    simp [gP,h']
theorem gZs(l:List (List UInt8))(a:List UInt8):vQ l a=decide (a∈l):=gTd a l
theorem gJt{rec:gD→List (List UInt8)→Option (List (List UInt8))}:∀(xs:List gD) (y:List (List UInt8)),(∀x∈xs,∀l,l.length+tnd x≤4294967296→rec x l=some (gHj x l))→y.length+gA8 xs≤4294967296→gBj rec xs y=some (gF3 xs y)∧gBk rec xs y=some (gF3 xs y)
 | [],y,_,_=>⟨rfl,rfl⟩
 | x::xs,y,h,hl=>by
   simp only [gA8] at hl
   have h1:=gNm x y
   simp only [gBj,gBk,gF3]
   rw [h x (by simp) y (by omega)]
   exact gJt xs _ (fun z hz=>h z (by simp [hz])) (by omega)
theorem gQg:∀(n:Nat) (t:gD) (l:List (List UInt8)),tnd t≤n→l.length+tnd t≤4294967296→gJs n t l=some (gHj t l)
 | 0,t,l,h,_=>by have:=gD5 t;omega
 | n+1,⟨k,s,ts⟩,l,h,hl=>by
   simp only [tnd] at h hl
   have hr:∀x∈ts,∀l,l.length+tnd x≤4294967296→gJs n x l=some (gHj x l):=fun x hx l hl=>gQg n x l (by have:=gCo hx;omega) hl
   simp only [gJs,gLk,lt_,gZs,gHj,gI0]
   by_cases hk:k=1
   ·by_cases hs:s∈l
    ·simp only [hk,hs,beq_self_eq_true,jH,decide_true,Bool.not_true,gP]
     simp only [not_true,and_false,if_false]
     exact(gJt ts l hr (by omega)).2
    ·simp only [hk,hs,beq_self_eq_true,jH,decide_false,Bool.not_false]
     simp only [not_false_eq_true,and_self,if_true]
     rw [pF (by simp;omega)]
     exact(gJt ts (l++[s]) hr (by simp;omega)).1
   ·simp only [beq_false_of_ne hk,gP,hk,false_and,if_false]
    exact(gJt ts l hr (by omega)).2
theorem gZt(x0:gD)(x1:List (List UInt8))(w0:Nat)(h:(x1:List (List UInt8)).length+tnd x0≤4294967296):Go.Eng.Spec Tryz.prog 182 [.d (jP x0),.sl 0 w0] [.own 9 1 w0 (gZ x1)] (fun sv Lo=>∃v'0,sv=.sl 0 v'0∧Lo=[.own 9 1 v'0 (gZ (gHj x0 x1))]):=gZr (tnd x0) x0 x1 w0 (gQg _ _ _ (Nat.le_refl _) h)
def gDz(a0:gD):Option (List (List UInt8)):=
gd (([]:List (List UInt8)).length+tnd a0≤4294967296) (lt_ (gHj a0 []) fun x1=>
(some x1))
theorem gLe(a0:gD){r:List (List UInt8)}(h:gDz a0=some r):jB Tryz.prog 168 [.d (jP a0)] [.sl 1 (gZ r)]:=by
 obtain⟨a0_0,a0_1,a0_2⟩:=a0
 unfold gDz at h
 refine SpI Tryz.func168 fun A _=>?_
 refine goL ?_
 refine gFc ?_
 obtain⟨g2,h⟩:=mZ h
 obtain⟨x1,hx1,h⟩:=qR h
 have sx1:=gZt (gD.mk a0_0 a0_1 a0_2) [] 0 g2
 rw [hx1] at sx1
 refine gG0 [1] (sx1) ?_
 rintro _ _ ⟨v3,rfl,rfl⟩
 show VO _ _ _ _ ⟨(_,.sl 1 v3)::_,[.box [.I a0_0,.S a0_1,.L 3 (gJ a0_2)],.own 9 1 v3 (gZ x1)],_⟩ _
 refine goL ?_
 refine wL 1 rfl rfl ?_
 refine jN ?_
 cases h
 exact qK
end Go.Proofs.YtfaplndgbgoaaaaGreatDoor
set_option maxHeartbeats 4000000
set_option linter.unusedVariables false
set_option linter.unusedSimpArgs false
set_option linter.unusedSectionVars false
namespace Go.Proofs.YtfaplndgbgoaaaaGreatDoor
open Go Go.Eng
attribute [local irreducible] V VO VQ VY Quiet QR jB kX Rng uJ uY qW
def gD9(a0:Int):Bool:=
lt_ ((cnd (decide (a0≥97)) ((cnd (decide (a0≤122)) (true) ((cnd (decide (a0≥48)) ((cnd (decide (a0≤57)) (true) ((cnd (a0==39) (true) ((cnd (a0==45) (true) ((cnd (a0==43) (true) ((cnd (a0==42) (true) ((cnd (a0==60) (true) ((cnd (a0==61) (true) ((a0==46)))))))))))))))) ((cnd (a0==39) (true) ((cnd (a0==45) (true) ((cnd (a0==43) (true) ((cnd (a0==42) (true) ((cnd (a0==60) (true) ((cnd (a0==61) (true) ((a0==46)))))))))))))))))) ((cnd (decide (a0≥48)) ((cnd (decide (a0≤57)) (true) ((cnd (a0==39) (true) ((cnd (a0==45) (true) ((cnd (a0==43) (true) ((cnd (a0==42) (true) ((cnd (a0==60) (true) ((cnd (a0==61) (true) ((a0==46)))))))))))))))) ((cnd (a0==39) (true) ((cnd (a0==45) (true) ((cnd (a0==43) (true) ((cnd (a0==42) (true) ((cnd (a0==60) (true) ((cnd (a0==61) (true) ((a0==46)))))))))))))))))) fun b1=>
b1
theorem gTe(a0:Int):jB Tryz.prog 92 [.d (.i .u8 a0)] [.b (gD9 a0)]:=by
 obtain⟨r,h⟩:∃r,gD9 a0=r:=⟨_,rfl⟩
 rw [h]
 unfold gD9 at h
 refine SpI Tryz.func92 fun A _=>?_
 refine goL ?_
 obtain⟨b1,hb1,h⟩:=qR h
 refine jU ⟨[(2,.B b1)],[],Tryz.f92.ntmps⟩ ?_ ?_
 ·refine gN 5 (fun c2=>?_) (fun c2=>?_)
  ·replace hb1:=gX c2 hb1
   refine goL ?_
   refine gN 9 (fun c3=>?_) (fun c3=>?_)
   ·replace hb1:=gX c3 hb1
    refine goL ?_
    cases hb1
    exact eJ
   ·replace hb1:=gY c3 hb1
    refine goL ?_
    refine gN 12 (fun c4=>?_) (fun c4=>?_)
    ·replace hb1:=gX c4 hb1
     refine goL ?_
     refine gN 17 (fun c5=>?_) (fun c5=>?_)
     ·replace hb1:=gX c5 hb1
      refine goL ?_
      cases hb1
      exact eJ
     ·replace hb1:=gY c5 hb1
      refine goL ?_
      refine gN 21 (fun c6=>?_) (fun c6=>?_)
      ·replace hb1:=gX c6 hb1
       refine goL ?_
       cases hb1
       exact eJ
      ·replace hb1:=gY c6 hb1
       refine goL ?_
       refine gN 25 (fun c7=>?_) (fun c7=>?_)
       ·replace hb1:=gX c7 hb1
        refine goL ?_
        cases hb1
        exact eJ
       ·replace hb1:=gY c7 hb1
        refine goL ?_
        refine gN 29 (fun c8=>?_) (fun c8=>?_)
        ·replace hb1:=gX c8 hb1
         refine goL ?_
         cases hb1
         exact eJ
        ·replace hb1:=gY c8 hb1
         refine goL ?_
         refine gN 33 (fun c9=>?_) (fun c9=>?_)
         ·replace hb1:=gX c9 hb1
          refine goL ?_
          cases hb1
          exact eJ
         ·replace hb1:=gY c9 hb1
          refine goL ?_
          refine gN 37 (fun c10=>?_) (fun c10=>?_)
          ·replace hb1:=gX c10 hb1
           refine goL ?_
           cases hb1
           exact eJ
          ·replace hb1:=gY c10 hb1
           refine goL ?_
           refine gN 41 (fun c11=>?_) (fun c11=>?_)
           ·replace hb1:=gX c11 hb1
            refine goL ?_
            cases hb1
            exact eJ
           ·replace hb1:=gY c11 hb1
            refine goL ?_
            cases hb1
            exact eJ
    ·replace hb1:=gY c4 hb1
     refine goL ?_
     refine gN 21 (fun c12=>?_) (fun c12=>?_)
     ·replace hb1:=gX c12 hb1
      refine goL ?_
      cases hb1
      exact eJ
     ·replace hb1:=gY c12 hb1
      refine goL ?_
      refine gN 25 (fun c13=>?_) (fun c13=>?_)
      ·replace hb1:=gX c13 hb1
       refine goL ?_
       cases hb1
       exact eJ
      ·replace hb1:=gY c13 hb1
       refine goL ?_
       refine gN 29 (fun c14=>?_) (fun c14=>?_)
       ·replace hb1:=gX c14 hb1
        refine goL ?_
        cases hb1
        exact eJ
       ·replace hb1:=gY c14 hb1
        refine goL ?_
        refine gN 33 (fun c15=>?_) (fun c15=>?_)
        ·replace hb1:=gX c15 hb1
         refine goL ?_
         cases hb1
         exact eJ
        ·replace hb1:=gY c15 hb1
         refine goL ?_
         refine gN 37 (fun c16=>?_) (fun c16=>?_)
         ·replace hb1:=gX c16 hb1
          refine goL ?_
          cases hb1
          exact eJ
         ·replace hb1:=gY c16 hb1
          refine goL ?_
          refine gN 41 (fun c17=>?_) (fun c17=>?_)
          ·replace hb1:=gX c17 hb1
           refine goL ?_
           cases hb1
           exact eJ
          ·replace hb1:=gY c17 hb1
           refine goL ?_
           cases hb1
           exact eJ
  ·replace hb1:=gY c2 hb1
   refine goL ?_
   refine gN 12 (fun c18=>?_) (fun c18=>?_)
   ·replace hb1:=gX c18 hb1
    refine goL ?_
    refine gN 17 (fun c19=>?_) (fun c19=>?_)
    ·replace hb1:=gX c19 hb1
     refine goL ?_
     cases hb1
     exact eJ
    ·replace hb1:=gY c19 hb1
     refine goL ?_
     refine gN 21 (fun c20=>?_) (fun c20=>?_)
     ·replace hb1:=gX c20 hb1
      refine goL ?_
      cases hb1
      exact eJ
     ·replace hb1:=gY c20 hb1
      refine goL ?_
      refine gN 25 (fun c21=>?_) (fun c21=>?_)
      ·replace hb1:=gX c21 hb1
       refine goL ?_
       cases hb1
       exact eJ
      ·replace hb1:=gY c21 hb1
       refine goL ?_
       refine gN 29 (fun c22=>?_) (fun c22=>?_)
       ·replace hb1:=gX c22 hb1
        refine goL ?_
        cases hb1
        exact eJ
       ·replace hb1:=gY c22 hb1
        refine goL ?_
        refine gN 33 (fun c23=>?_) (fun c23=>?_)
        ·replace hb1:=gX c23 hb1
         refine goL ?_
         cases hb1
         exact eJ
        ·replace hb1:=gY c23 hb1
         refine goL ?_
         refine gN 37 (fun c24=>?_) (fun c24=>?_)
         ·replace hb1:=gX c24 hb1
          refine goL ?_
          cases hb1
          exact eJ
         ·replace hb1:=gY c24 hb1
          refine goL ?_
          refine gN 41 (fun c25=>?_) (fun c25=>?_)
          ·replace hb1:=gX c25 hb1
           refine goL ?_
           cases hb1
           exact eJ
          ·replace hb1:=gY c25 hb1
           refine goL ?_
           cases hb1
           exact eJ
   ·replace hb1:=gY c18 hb1
    refine goL ?_
    refine gN 21 (fun c26=>?_) (fun c26=>?_)
    ·replace hb1:=gX c26 hb1
     refine goL ?_
     cases hb1
     exact eJ
    ·replace hb1:=gY c26 hb1
     refine goL ?_
     refine gN 25 (fun c27=>?_) (fun c27=>?_)
     ·replace hb1:=gX c27 hb1
      refine goL ?_
      cases hb1
      exact eJ
     ·replace hb1:=gY c27 hb1
      refine goL ?_
      refine gN 29 (fun c28=>?_) (fun c28=>?_)
      ·replace hb1:=gX c28 hb1
       refine goL ?_
       cases hb1
       exact eJ
      ·replace hb1:=gY c28 hb1
       refine goL ?_
       refine gN 33 (fun c29=>?_) (fun c29=>?_)
       ·replace hb1:=gX c29 hb1
        refine goL ?_
        cases hb1
        exact eJ
       ·replace hb1:=gY c29 hb1
        refine goL ?_
        refine gN 37 (fun c30=>?_) (fun c30=>?_)
        ·replace hb1:=gX c30 hb1
         refine goL ?_
         cases hb1
         exact eJ
        ·replace hb1:=gY c30 hb1
         refine goL ?_
         refine gN 41 (fun c31=>?_) (fun c31=>?_)
         ·replace hb1:=gX c31 hb1
          refine goL ?_
          cases hb1
          exact eJ
         ·replace hb1:=gY c31 hb1
          refine goL ?_
          cases hb1
          exact eJ
 refine goL ?_
 refine jN ?_
 subst h
 exact qK
def gGr(rec_l2Left:gB→Int→Option (Int))(a0:gB):Nat→Int→Int→Option (Int)
 | 0,y1,y2=>none
 | n3+1,y1,y2=>lt_ ((cnd (decide (y2 < (a0.list.length:Int))) ((decide (y1≥0))) (false))) fun b4=>
(cnd b4 (
bnd (at? a0.list y2) fun x7=>
bnd (rec_l2Left x7 y1) fun x8=>
gGr rec_l2Left a0 n3 x8 (IntKind.i64.wrap (y2+1))) (
(some y1)))
def gOv(rec_l2Left:gB→Int→Option (Int))(a0:gB)(a1:Int)(n0:Nat):Option (Int):=
gGr rec_l2Left a0 n0 (IntKind.i64.wrap (a1 - 1)) 0
theorem gZu{rec_l2Left:gB→Int→Option (Int)}(hrec_l2Left:∀(x0:gB) (x1:Int) {r:Int},rec_l2Left x0 x1=some r→jB Tryz.prog 93 [.d (mF x0),.I x1] [.i .i64 r])(a0:gB)(a1:Int){n0:Nat}{r:Int}(h:gOv rec_l2Left a0 a1 n0=some r):jB Tryz.prog 93 [.d (mF a0),.I a1] [.i .i64 r]:=by
 obtain⟨a0_0,a0_1⟩:=a0
 unfold gOv at h
 refine SpI Tryz.func93 fun A _=>?_
 refine goL ?_
 refine jI (qC) ?_
 refine noB ?_
 refine kR (fun(n3:Nat) (y1:Int) (y2:Int)=>⟨[(1,.I y1),(2,.ptr 0 0),(5,.I y2)],[.box [.S a0_0,.L 2 (gM a0_1)]],Tryz.f93.ntmps⟩) (fun n3 y1 y2=>gGr rec_l2Left (gB.mk a0_0 a0_1) n3 y1 y2=some r) (fun n3 y1 y2=>n3) n0 (IntKind.i64.wrap (a1 - 1)) 0 eJ h ?_
 rintro n3 y1 y2 h
 rcases n3 with _ | n3
 ·cases h
 rw [gGr.eq_2] at h
 refine goL ?_
 obtain⟨b4,hb4,h⟩:=qR h
 refine jU ⟨[(1,.I y1),(2,.ptr 0 0),(5,.I y2),(16,.B b4)],[.box [.S a0_0,.L 2 (gM a0_1)]],Tryz.f93.ntmps⟩ ?_ ?_
 ·refine gN 13 (fun c5=>?_) (fun c5=>?_)
  ·replace hb4:=gX c5 hb4
   refine goL ?_
   cases hb4
   exact eJ
  ·replace hb4:=gY c5 hb4
   refine goL ?_
   cases hb4
   exact eJ
 refine goC h ?_ ?_<;>intro c6 h
 ·refine noS ?_
  refine kI (jE ?_)
  refine goL ?_
  obtain⟨x7,hx7,h⟩:=gK h
  obtain⟨hx70,hx7⟩:=gD6 hx7
  obtain⟨x7_0,x7_1⟩:=x7
  refine jI (qU hx70 (qO hx7)) ?_
  obtain⟨x8,hx8,h⟩:=gK h
  refine jI (gF (hrec_l2Left (gB.mk x7_0 x7_1) y1 hx8)) ?_
  refine jI (qC) ?_
  exact⟨n3,x8,(IntKind.i64.wrap (y2+1)),h,Nat.lt_succ_self _,eJ⟩
 ·refine goX ?_
  refine jN ?_
  cases h
  exact qK
def gOw:Nat→gB→Int→Option (Int)
 | 0,_,_=>none
 | n+1,x0,x1=>gOv (gOw n) x0 x1 n
theorem gZv:∀(n:Nat) (x0:gB) (x1:Int) {r:Int},gOw n x0 x1=some r→jB Tryz.prog 93 [.d (mF x0),.I x1] [.i .i64 r]:=by
 intro n
 induction n with
 | zero=>intro x0 x1 r h;cases h
 | succ n ih=>intro x0 x1 r h;exact gZu ih x0 x1 h
def gI5(a0:Int)(a1:Int):Int:=
(cnd (decide (a0 > a1)) (
a0) (
a1))
theorem gWd(a0:Int)(a1:Int):jB Tryz.prog 112 [.I a0,.I a1] [.i .i64 (gI5 a0 a1)]:=by
 obtain⟨r,h⟩:∃r,gI5 a0 a1=r:=⟨_,rfl⟩
 rw [h]
 unfold gI5 at h
 refine SpI Tryz.func112 fun A _=>?_
 refine goC h ?_ ?_<;>intro c1 h
 ·refine goL ?_
  refine jN ?_
  subst h
  exact qK
 ·refine goS ?_
  refine jN ?_
  subst h
  exact qK
def gDe:List gB→(List (List UInt8))→Option (List (List UInt8) × Bool)
 | [],y1=>(some (y1,true))
 | x6::xs,y1=>(cnd (x6.atom==[]) (
(some ([],false))) (
gd (y1.length+[x6.atom].length≤4294967296) (
gDe xs (y1++[x6.atom]))))
def gHo(a0:List gB):Option (List (List UInt8) × Bool):=
gDe a0 []
theorem gMa(a0:List gB){r:List (List UInt8) × Bool}(h:gHo a0=some r):jB Tryz.prog 79 [.L 2 (gM a0)] [.sl 1 (gZ r.1),.b r.2]:=by
 unfold gHo at h
 refine SpI Tryz.func79 fun A _=>?_
 refine goL ?_
 refine gFc ?_
 refine goL ?_
 refine noB ?_
 refine gFj 0 (fun z4=>?_)
 refine kR (fun(y3:Nat) (y1:List (List UInt8)) (v2:Nat)=>⟨[(0,.L 2 (gM a0)),(4,.sl 0 v2),(5,.N y3)],[.own 9 1 v2 (gZ y1)],Tryz.f79.ntmps⟩) (fun y3 y1 v2=>gDe (a0.drop y3) y1=some r) (fun y3 y1 v2=>a0.length - y3) 0 [] 0 eJ h ?_
 rintro y3 y1 v2 h
 refine goL ?_
 refine mO (fun c5=>?_) (fun c5=>?_)
 ·have hky32:=wE c5
  obtain⟨x6,hx6,hdx6⟩:=drop_at hky32
  rw [hdx6,gDe.eq_2] at h
  obtain⟨x6_0,x6_1⟩:=x6
  refine noS ?_
  refine kI (jE ?_)
  refine goL ?_
  refine jI (jJ y3 (qO hx6)) ?_
  refine mO (fun c7=>?_) (fun c7=>?_)
  ·replace h:=gX c7 h
   refine goL ?_
   refine gFc ?_
   refine goL ?_
   refine wL 1 rfl rfl ?_
   refine jN ?_
   cases h
   exact qK
  ·replace h:=gY c7 h
   refine goS ?_
   refine jI (jJ y3 (qO hx6)) ?_
   refine gA7 x6_0 ?_
   obtain⟨g8,h⟩:=mZ h
   refine gGg g8 ?_
   refine goL ?_
   refine jI (jS y3 (by omega)) ?_
   exact⟨(y3+1),(y1++[x6_0]),(v2+1),h,by omega,eJ⟩
 ·have hky32:=wF c5
  rw [jF hky32,gDe.eq_1] at h
  refine goX ?_
  refine wL 0 rfl rfl ?_
  refine jN ?_
  cases h
  exact qK
def pX(a0:gB)(a1:Int):Option (gB):=
(cnd (decide (a1≥(a0.list.length:Int))) (
(some (gB.mk [] []))) (
bnd (at? a0.list a1) fun x2=>
(some x2)))
theorem qH(a0:gB)(a1:Int){r:gB}(h:pX a0 a1=some r):jB Tryz.prog 80 [.d (mF a0),.I a1] [mF r]:=by
 obtain⟨a0_0,a0_1⟩:=a0
 unfold pX at h
 refine SpI Tryz.func80 fun A _=>?_
 refine goC h ?_ ?_<;>intro c1 h
 ·refine goL ?_
  refine gA6 (kD TBd.h TZ.h rfl (by repeat constructor)) ?_
  exact goR h
 ·refine goS ?_
  obtain⟨x2,hx2,h⟩:=gK h
  obtain⟨hx20,hx2⟩:=gD6 hx2
  obtain⟨x2_0,x2_1⟩:=x2
  refine qP (qU hx20 (qO hx2)) ?_
  exact goR h
def pI(a0:Int)(a1:Int):Int:=
(cnd (decide (a0 < a1)) (
a0) (
a1))
theorem gGs(a0:Int)(a1:Int):jB Tryz.prog 135 [.I a0,.I a1] [.i .i64 (pI a0 a1)]:=by
 obtain⟨r,h⟩:∃r,pI a0 a1=r:=⟨_,rfl⟩
 rw [h]
 unfold pI at h
 refine SpI Tryz.func135 fun A _=>?_
 refine goC h ?_ ?_<;>intro c1 h
 ·refine goL ?_
  refine jN ?_
  subst h
  exact qK
 ·refine goS ?_
  refine jN ?_
  subst h
  exact qK
def gEw(a0:List UInt8)(b1:Bool):List UInt8→Int→Option (Int × Bool)
 | [],y10=>bnd ((cnd b1 (
(some (IntKind.i64.wrap ((0:Int) - y10)))) (
(some y10)))) fun b18=>
gd (zH b18) ((cnd (!((Lib.itoa b18)==a0)) (
(some (0,false))) (
(some (b18,true)))))
 | x14::xs,y10=>lt_ ((cnd (decide ((x14.toNat:Int) < 48)) (true) ((decide ((x14.toNat:Int) > 57))))) fun b15=>
(cnd b15 (
(some (0,false))) (
gEw a0 b1 xs (IntKind.i64.wrap ((IntKind.i64.wrap ((10:Int)*y10))+(IntKind.i64.wrap (IntKind.u8.wrap ((x14.toNat:Int) - 48)))))))
def gOx(a0:List UInt8)(a1:Int):Option (Int × Bool):=
bnd ((cnd (decide ((a0.length:Int) > 0)) (bnd (at? a0 0) fun x3=>
(some ((x3.toNat:Int)==45))) ((some false)))) fun b1=>
bnd ((cnd b1 (
gd (0≤(1:Int)∧1≤(a0.length:Int)) (
(some (a0.drop (Int.toNat 1))))) (
(some a0)))) fun b4=>
lt_ ((cnd (decide ((b4.length:Int) < 1)) (true) ((decide ((b4.length:Int) > a1))))) fun b7=>
(cnd b7 (
(some (0,false))) (
gEw a0 b1 b4 0))
theorem gZw(a0:List UInt8)(a1:Int){r:Int × Bool}(h:gOx a0 a1=some r):jB Tryz.prog 164 [.S a0,.I a1] [.i .i64 r.1,.b r.2]:=by
 unfold gOx at h
 refine SpI Tryz.func164 fun A _=>?_
 refine goL ?_
 obtain⟨b1,hb1,h⟩:=gK h
 refine jU ⟨[(0,.S a0),(1,.I a1),(6,.B b1)],[],Tryz.f164.ntmps⟩ ?_ ?_
 ·refine gN 13 (fun c2=>?_) (fun c2=>?_)
  ·replace hb1:=gX c2 hb1
   refine goL ?_
   refine uD ?_
   obtain⟨x3,hx3,hb1⟩:=gK hb1
   obtain⟨hx30,hx3⟩:=gD6 hx3
   refine jI (gGe hx30 hx3) ?_
   cases hb1
   exact eJ
  ·replace hb1:=gY c2 hb1
   refine goL ?_
   cases hb1
   exact eJ
 refine goL ?_
 obtain⟨b4,hb4,h⟩:=gK h
 refine gD4 ⟨[(0,.S a0),(1,.I a1),(6,.B b1),(7,.S b4)],[],Tryz.f164.ntmps⟩ ?_ ?_
 ·refine mO (fun c5=>?_) (fun c5=>?_)
  ·replace hb4:=gX c5 hb4
   refine goL ?_
   obtain⟨g6,hb4⟩:=mZ hb4
   refine jI (hCr g6) ?_
   cases hb4
   exact eJ
  ·replace hb4:=gY c5 hb4
   refine gAi ?_
   cases hb4
   exact eJ
 refine goL ?_
 obtain⟨b7,hb7,h⟩:=qR h
 refine jU ⟨[(0,.S a0),(6,.B b1),(7,.S b4),(30,.B b7)],[],Tryz.f164.ntmps⟩ ?_ ?_
 ·refine gN 25 (fun c8=>?_) (fun c8=>?_)
  ·replace hb7:=gX c8 hb7
   refine goL ?_
   cases hb7
   exact eJ
  ·replace hb7:=gY c8 hb7
   refine goL ?_
   cases hb7
   exact eJ
 refine goC h ?_ ?_<;>intro c9 h
 ·exact goR h
 ·refine goS ?_
  refine noB ?_
  refine gXm 7 (fun z12=>?_)
  refine gD3 (fun(y11:Nat) (y10:Int)=>⟨[(0,.S a0),(6,.B b1),(7,.S b4),(8,.I y10),(9,.N y11)],[],Tryz.f164.ntmps⟩) (fun y11 y10=>gEw a0 b1 (b4.drop y11) y10=some r) (fun y11 y10=>b4.length - y11) 0 0 eJ h ?_
  rintro y11 y10 h
  refine goL ?_
  refine mO (fun c13=>?_) (fun c13=>?_)
  ·have hky112:=hFr c13
   obtain⟨x14,hx14,hdx14⟩:=drop_at hky112
   rw [hdx14,gEw.eq_2] at h
   refine noS ?_
   refine kI (jE ?_)
   refine goL ?_
   refine jI (gD2 y11 hx14) ?_
   obtain⟨b15,hb15,h⟩:=qR h
   refine jU ⟨[(0,.S a0),(6,.B b1),(7,.S b4),(8,.I y10),(9,.N y11),(46,.B b15)],[],Tryz.f164.ntmps⟩ ?_ ?_
   ·refine gN 41 (fun c16=>?_) (fun c16=>?_)
    ·replace hb15:=gX c16 hb15
     refine goL ?_
     cases hb15
     exact eJ
    ·replace hb15:=gY c16 hb15
     refine goL ?_
     refine uD ?_
     refine jI (gD2 y11 hx14) ?_
     cases hb15
     exact eJ
   refine goC h ?_ ?_<;>intro c17 h
   ·exact goR h
   ·refine goS ?_
    refine jI (qC) ?_
    refine qP (gD2 y11 hx14) ?_
    refine qP (qC) ?_
    refine qP (hEf Tryz.underlying5 Tryz.underlying3) ?_
    refine jI (qC) ?_
    refine jI (jS y11 (by omega)) ?_
    exact⟨(y11+1),(IntKind.i64.wrap ((IntKind.i64.wrap ((10:Int)*y10))+(IntKind.i64.wrap (IntKind.u8.wrap ((x14.toNat:Int) - 48))))),h,by omega,eJ⟩
  ·have hky112:=hFs c13
   rw [jF hky112,gEw.eq_1] at h
   refine goX ?_
   obtain⟨b18,hb18,h⟩:=gK h
   refine gD4 ⟨[(0,.S a0),(8,.I b18)],[],Tryz.f164.ntmps⟩ ?_ ?_
   ·refine mO (fun c19=>?_) (fun c19=>?_)
    ·replace hb18:=gX c19 hb18
     refine goL ?_
     refine jI (qC) ?_
     cases hb18
     exact eJ
    ·replace hb18:=gY c19 hb18
     refine gAi ?_
     cases hb18
     exact eJ
   refine goL ?_
   obtain⟨g20,h⟩:=mZ h
   refine jI (gF (gH6 b18 g20)) ?_
   refine mO (fun c21=>?_) (fun c21=>?_)
   ·replace h:=gX c21 h
    exact goR h
   ·replace h:=gY c21 h
    refine goS ?_
    refine jN ?_
    cases h
    exact qK
def gLl(a0:Int):jM:=
(jM.mk 1 [] [] a0 (gD.mk 0 [] []) [] [])
theorem gZx(a0:Int):jB Tryz.prog 137 [.I a0] [yR (gLl a0)]:=by
 obtain⟨r,h⟩:∃r,gLl a0=r:=⟨_,rfl⟩
 rw [h]
 unfold gLl at h
 refine SpI Tryz.func137 fun A _=>?_
 refine goL ?_
 refine gFl (kD TBd.h TZ.h rfl (by repeat constructor)) ?_
 refine jN ?_
 subst h
 exact qK
def gLm(a0:List UInt8):jM:=
(jM.mk 3 [] a0 0 (gD.mk 0 [] []) [] [])
theorem gZy(a0:List UInt8):jB Tryz.prog 138 [.S a0] [yR (gLm a0)]:=by
 obtain⟨r,h⟩:∃r,gLm a0=r:=⟨_,rfl⟩
 rw [h]
 unfold gLm at h
 refine SpI Tryz.func138 fun A _=>?_
 refine goL ?_
 refine gFl (kD TBd.h TZ.h rfl (by repeat constructor)) ?_
 refine jN ?_
 subst h
 exact qK
def zL(rec_sEqualSExpr:gB→gB→Option (Bool))(a1:gB):List gB→Nat→Option (Bool)
 | [],y4=>(some true)
 | x7::xs,y4=>bnd (at? a1.list (y4:Int)) fun x8=>
bnd (rec_sEqualSExpr x7 x8) fun x9=>
(cnd (!x9) (
(some false)) (
zL rec_sEqualSExpr a1 xs (y4+1)))
def gGt(rec_sEqualSExpr:gB→gB→Option (Bool))(a0:gB)(a1:gB):Option (Bool):=
lt_ ((cnd (!(a0.atom==a1.atom)) (true) (((a0.list.length:Int) !=(a1.list.length:Int))))) fun b1=>
(cnd b1 (
(some false)) (
zL rec_sEqualSExpr a1 a0.list 0))
theorem gOy{rec_sEqualSExpr:gB→gB→Option (Bool)}(hrec_sEqualSExpr:∀(x0:gB) (x1:gB) {r:Bool},rec_sEqualSExpr x0 x1=some r→jB Tryz.prog 118 [.d (mF x0),.d (mF x1)] [.b r])(a0:gB)(a1:gB){r:Bool}(h:gGt rec_sEqualSExpr a0 a1=some r):jB Tryz.prog 118 [.d (mF a0),.d (mF a1)] [.b r]:=by
 obtain⟨a0_0,a0_1⟩:=a0
 obtain⟨a1_0,a1_1⟩:=a1
 unfold gGt at h
 refine SpI Tryz.func118 fun A _=>?_
 refine goL ?_
 obtain⟨b1,hb1,h⟩:=qR h
 refine jU ⟨[(2,.ptr 0 0),(3,.ptr 1 0),(19,.B b1)],[.box [.S a0_0,.L 2 (gM a0_1)],.box [.S a1_0,.L 2 (gM a1_1)]],Tryz.f118.ntmps⟩ ?_ ?_
 ·refine gN 11 (fun c2=>?_) (fun c2=>?_)
  ·replace hb1:=gX c2 hb1
   refine goL ?_
   cases hb1
   exact eJ
  ·replace hb1:=gY c2 hb1
   refine goL ?_
   cases hb1
   exact eJ
 refine goC h ?_ ?_<;>intro c3 h
 ·exact goR h
 ·refine goS ?_
  refine noB ?_
  refine vN 0 1 (fun z5=>?_)
  refine pJ (fun(y4:Nat)=>⟨[(2,.ptr 0 0),(3,.ptr 1 0),(5,.N y4)],[.box [.S a0_0,.L 2 (gM a0_1)],.box [.S a1_0,.L 2 (gM a1_1)]],Tryz.f118.ntmps⟩) (fun y4=>zL rec_sEqualSExpr (gB.mk a1_0 a1_1) (a0_1.drop y4) y4=some r) (fun y4=>a0_1.length - y4) 0 eJ h ?_
  rintro y4 h
  refine goL ?_
  refine mO (fun c6=>?_) (fun c6=>?_)
  ·have hky42:=wE c6
   obtain⟨x7,hx7,hdx7⟩:=drop_at hky42
   rw [hdx7,zL.eq_2] at h
   obtain⟨x7_0,x7_1⟩:=x7
   refine noS ?_
   refine kI (jE ?_)
   refine goL ?_
   refine gDm (jJ y4 (qO hx7)) ?_
   refine goL ?_
   obtain⟨x8,hx8,h⟩:=gK h
   rw [gD7] at hx8
   obtain⟨x8_0,x8_1⟩:=x8
   refine gDm (jJ y4 (qO hx8)) ?_
   refine goL ?_
   obtain⟨x9,hx9,h⟩:=gK h
   refine gDm (gF (hrec_sEqualSExpr (gB.mk x7_0 x7_1) (gB.mk x8_0 x8_1) hx9)) ?_
   refine goC h ?_ ?_<;>intro c10 h
   ·exact goR h
   ·refine goS ?_
    refine jI (jS y4 (by omega)) ?_
    exact⟨(y4+1),h,by omega,eJ⟩
  ·have hky42:=wF c6
   rw [jF hky42,zL.eq_1] at h
   refine goX ?_
   refine jN ?_
   cases h
   exact qK
def gAt:Nat→gB→gB→Option (Bool)
 | 0,_,_=>none
 | n+1,x0,x1=>gGt (gAt n) x0 x1
theorem gEa:∀(n:Nat) (x0:gB) (x1:gB) {r:Bool},gAt n x0 x1=some r→jB Tryz.prog 118 [.d (mF x0),.d (mF x1)] [.b r]:=by
 intro n
 induction n with
 | zero=>intro x0 x1 r h;cases h
 | succ n ih=>intro x0 x1 r h;exact gOy ih x0 x1 h
def gEb(a0:List UInt8):Bool:=
(vQ [[105,110,116],[98,111,111,108],[97,115,115,111,99],[100,121,110],[105,102],[108,101,116],[99,97,115,101],[110,101,119],[109,101,116,104,111,100],[112,97,99,107],[116,114,117,101],[102,97,108,115,101]] a0)
theorem gOz(a0:List UInt8):jB Tryz.prog 125 [.S a0] [.b (gEb a0)]:=by
 obtain⟨r,h⟩:∃r,gEb a0=r:=⟨_,rfl⟩
 rw [h]
 unfold gEb at h
 refine SpI Tryz.func125 fun A _=>?_
 refine goL ?_
 refine gM3 (us:=gZ [[105,110,116],[98,111,111,108],[97,115,115,111,99],[100,121,110],[105,102],[108,101,116],[99,97,115,101],[110,101,119],[109,101,116,104,111,100],[112,97,99,107],[116,114,117,101],[102,97,108,115,101]]) ?_
 refine goL ?_
 refine gFl (gSj (gDy [[105,110,116],[98,111,111,108],[97,115,115,111,99],[100,121,110],[105,102],[108,101,116],[99,97,115,101],[110,101,119],[109,101,116,104,111,100],[112,97,99,107],[116,114,117,101],[102,97,108,115,101]] a0)) ?_
 refine jN ?_
 subst h
 exact qK
def yM(a0:List (List UInt8)):List (List UInt8)→Nat→Option (Bool)
 | [],y1=>(some true)
 | x4::xs,y1=>gd (0≤(y1:Int)∧(y1:Int)≤(a0.length:Int)) (
(cnd (vQ (a0.take (Int.toNat (y1:Int))) x4) (
(some false)) (
yM a0 xs (y1+1))))
def vT(a0:List (List UInt8)):Option (Bool):=
yM a0 a0 0
theorem zT(a0:List (List UInt8)){r:Bool}(h:vT a0=some r):jB Tryz.prog 104 [.L 1 (gZ a0)] [.b r]:=by
 unfold vT at h
 refine SpI Tryz.func104 fun A _=>?_
 refine goL ?_
 refine noB ?_
 refine gFj 0 (fun z2=>?_)
 refine pJ (fun(y1:Nat)=>⟨[(0,.L 1 (gZ a0)),(3,.N y1)],[],Tryz.f104.ntmps⟩) (fun y1=>yM a0 (a0.drop y1) y1=some r) (fun y1=>a0.length - y1) 0 eJ h ?_
 rintro y1 h
 refine goL ?_
 refine mO (fun c3=>?_) (fun c3=>?_)
 ·have hky12:=wE c3
  obtain⟨x4,hx4,hdx4⟩:=drop_at hky12
  rw [hdx4,yM.eq_2] at h
  refine noS ?_
  refine kI (jE ?_)
  refine goL ?_
  obtain⟨g5,h⟩:=mZ h
  refine gDm (hGz g5) ?_
  refine goL ?_
  refine gDm (jJ y1 (gOe hx4)) ?_
  refine goL ?_
  refine gDm (gF (gDy (a0.take (Int.toNat (y1:Int))) x4)) ?_
  refine goC h ?_ ?_<;>intro c6 h
  ·exact goR h
  ·refine goS ?_
   refine jI (jS y1 (by omega)) ?_
   exact⟨(y1+1),h,by omega,eJ⟩
 ·have hky12:=wF c3
  rw [jF hky12,yM.eq_1] at h
  refine goX ?_
  refine jN ?_
  cases h
  exact qK
def gGu(rec_l4Left:gD→Int→Option (Int))(a0:gD):Nat→Int→Int→Option (Int)
 | 0,y1,y2=>none
 | n3+1,y1,y2=>lt_ ((cnd (decide (y2 < (a0.args.length:Int))) ((decide (y1≥0))) (false))) fun b4=>
(cnd b4 (
bnd (at? a0.args y2) fun x7=>
bnd (rec_l4Left x7 y1) fun x8=>
gGu rec_l4Left a0 n3 x8 (IntKind.i64.wrap (y2+1))) (
(some y1)))
def gO0(rec_l4Left:gD→Int→Option (Int))(a0:gD)(a1:Int)(n0:Nat):Option (Int):=
gGu rec_l4Left a0 n0 (IntKind.i64.wrap (a1 - 1)) 0
theorem gZz{rec_l4Left:gD→Int→Option (Int)}(hrec_l4Left:∀(x0:gD) (x1:Int) {r:Int},rec_l4Left x0 x1=some r→jB Tryz.prog 183 [.d (jP x0),.I x1] [.i .i64 r])(a0:gD)(a1:Int){n0:Nat}{r:Int}(h:gO0 rec_l4Left a0 a1 n0=some r):jB Tryz.prog 183 [.d (jP a0),.I a1] [.i .i64 r]:=by
 obtain⟨a0_0,a0_1,a0_2⟩:=a0
 unfold gO0 at h
 refine SpI Tryz.func183 fun A _=>?_
 refine goL ?_
 refine jI (qC) ?_
 refine noB ?_
 refine kR (fun(n3:Nat) (y1:Int) (y2:Int)=>⟨[(1,.I y1),(2,.ptr 0 0),(5,.I y2)],[.box [.I a0_0,.S a0_1,.L 3 (gJ a0_2)]],Tryz.f183.ntmps⟩) (fun n3 y1 y2=>gGu rec_l4Left (gD.mk a0_0 a0_1 a0_2) n3 y1 y2=some r) (fun n3 y1 y2=>n3) n0 (IntKind.i64.wrap (a1 - 1)) 0 eJ h ?_
 rintro n3 y1 y2 h
 rcases n3 with _ | n3
 ·cases h
 rw [gGu.eq_2] at h
 refine goL ?_
 obtain⟨b4,hb4,h⟩:=qR h
 refine jU ⟨[(1,.I y1),(2,.ptr 0 0),(5,.I y2),(16,.B b4)],[.box [.I a0_0,.S a0_1,.L 3 (gJ a0_2)]],Tryz.f183.ntmps⟩ ?_ ?_
 ·refine gN 13 (fun c5=>?_) (fun c5=>?_)
  ·replace hb4:=gX c5 hb4
   refine goL ?_
   cases hb4
   exact eJ
  ·replace hb4:=gY c5 hb4
   refine goL ?_
   cases hb4
   exact eJ
 refine goC h ?_ ?_<;>intro c6 h
 ·refine noS ?_
  refine kI (jE ?_)
  refine goL ?_
  obtain⟨x7,hx7,h⟩:=gK h
  obtain⟨hx70,hx7⟩:=gD6 hx7
  obtain⟨x7_0,x7_1,x7_2⟩:=x7
  refine jI (qU hx70 (gBb hx7)) ?_
  obtain⟨x8,hx8,h⟩:=gK h
  refine jI (gF (hrec_l4Left (gD.mk x7_0 x7_1 x7_2) y1 hx8)) ?_
  refine jI (qC) ?_
  exact⟨n3,x8,(IntKind.i64.wrap (y2+1)),h,Nat.lt_succ_self _,eJ⟩
 ·refine goX ?_
  refine jN ?_
  cases h
  exact qK
def gO1:Nat→gD→Int→Option (Int)
 | 0,_,_=>none
 | n+1,x0,x1=>gO0 (gO1 n) x0 x1 n
theorem gZ0:∀(n:Nat) (x0:gD) (x1:Int) {r:Int},gO1 n x0 x1=some r→jB Tryz.prog 183 [.d (jP x0),.I x1] [.i .i64 r]:=by
 intro n
 induction n with
 | zero=>intro x0 x1 r h;cases h
 | succ n ih=>intro x0 x1 r h;exact gZz ih x0 x1 h
def gJu(a0:List UInt8):Bool:=
lt_ ((cnd (a0==[105,110,116]) (true) ((a0==[98,111,111,108])))) fun b1=>
b1
theorem gTf(a0:List UInt8):jB Tryz.prog 175 [.S a0] [.b (gJu a0)]:=by
 obtain⟨r,h⟩:∃r,gJu a0=r:=⟨_,rfl⟩
 rw [h]
 unfold gJu at h
 refine SpI Tryz.func175 fun A _=>?_
 refine goL ?_
 obtain⟨b1,hb1,h⟩:=qR h
 refine jU ⟨[(2,.B b1)],[],Tryz.f175.ntmps⟩ ?_ ?_
 ·refine gN 5 (fun c2=>?_) (fun c2=>?_)
  ·replace hb1:=gX c2 hb1
   refine goL ?_
   cases hb1
   exact eJ
  ·replace hb1:=gY c2 hb1
   refine goL ?_
   cases hb1
   exact eJ
 refine goL ?_
 refine jN ?_
 subst h
 exact qK
end Go.Proofs.YtfaplndgbgoaaaaGreatDoor
