import Derived.Test.YtfaplndgbgoaaaaGreatDoorEng38
import Derived.Test.YtfaplndgbgoaaaaGreatDoorEng67
import Derived.Test.YtfaplndgbgoaaaaGreatDoorB2
set_option maxHeartbeats 4000000
set_option linter.unusedVariables false
set_option linter.unusedSimpArgs false
set_option linter.unusedSectionVars false
namespace Go.Proofs.YtfaplndgbgoaaaaGreatDoor
open Go Go.Eng
attribute [local irreducible] V VO VQ VY Quiet QR jB kX Rng uJ uY qW
def gDf(rec_l11Free:jM→(List (List UInt8))→(List (List UInt8))→Option (List (List UInt8)))(bound:List (List UInt8)):List gJa→(List (List UInt8))→Option (List (List UInt8))
 | [],y25=>(some y25)
 | x30::xs,y25=>gd (([]:List (List UInt8)).length+bound.length≤4294967296) (
gd (([]++bound).length+x30.vars.length≤4294967296) (
bnd (rec_l11Free x30.body (([]++bound)++x30.vars) y25) fun x33=>
gDf rec_l11Free bound xs x33))
def gDg(rec_l11Free:jM→(List (List UInt8))→(List (List UInt8))→Option (List (List UInt8)))(e:jM)(bound:List (List UInt8)):List jM→Nat→(List (List UInt8))→Option (List (List UInt8))
 | [],y10,y8=>gDf rec_l11Free bound e.arms y8
 | x13::xs,y10,y8=>bnd (lt_ ((cnd (e.kind==8) (((y10:Int)==1)) (false))) fun b16=>
(cnd b16 (
gd (([]:List (List UInt8)).length+bound.length≤4294967296) (
gd (([]++bound).length+[e.name].length≤4294967296) (
bnd (rec_l11Free x13 (([]++bound)++[e.name]) y8) fun x21=>
(some x21)))) (
bnd (rec_l11Free x13 bound y8) fun x23=>
(some x23)))) fun b14=>
gDg rec_l11Free e bound xs (y10+1) b14
def gMb(rec_l11Free:jM→(List (List UInt8))→(List (List UInt8))→Option (List (List UInt8)))(e:jM)(bound:List (List UInt8))(l0:List (List UInt8)):Option (List (List UInt8)):=
lt_ ((cnd (e.kind==3) ((cnd (!(vQ bound e.name)) ((!(vQ l0 e.name))) (false))) (false))) fun b1=>
bnd ((cnd b1 (
gd (l0.length+[e.name].length≤4294967296) (
(some (l0++[e.name])))) (
(some l0)))) fun b4=>
gDg rec_l11Free e bound e.args 0 b4
theorem gWg{rec_l11Free:jM→(List (List UInt8))→(List (List UInt8))→Option (List (List UInt8))}(hrec_l11Free:∀(x0:jM) (x1:List (List UInt8)) (x2:List (List UInt8)) (w0:Nat) {r:List (List UInt8)},rec_l11Free x0 x1 x2=some r→Go.Eng.Spec Tryz.prog 186 [.d (yR x0),.L 1 (gZ x1),.sl 0 w0] [.own 9 1 w0 (gZ x2)] (fun sv Lo=>∃v'0,sv=.sl 0 v'0∧Lo=[.own 9 1 v'0 (gZ r)]))(e:jM)(bound:List (List UInt8))(l0:List (List UInt8))(v0:Nat){r:List (List UInt8)}(h:gMb rec_l11Free e bound l0=some r):Go.Eng.Spec Tryz.prog 186 [.d (yR e),.L 1 (gZ bound),.sl 0 v0] [.own 9 1 v0 (gZ l0)] (fun sv Lo=>∃v'0,sv=.sl 0 v'0∧Lo=[.own 9 1 v'0 (gZ r)]):=by
 obtain⟨e_0,e_1,e_2,e_3,⟨e_4_0,e_4_1,e_4_2⟩,e_5,e_6⟩:=e
 unfold gMb at h
 refine mP 1 Tryz.func186 rfl (by kernel_rfl) rfl rfl fun A _=>?_
 refine goL ?_
 obtain⟨b1,hb1,h⟩:=qR h
 refine jU ⟨[(1,.L 1 (gZ bound)),(2,.sl 0 v0),(3,.ptr 1 0),(26,.B b1)],[.own 9 1 v0 (gZ l0),.box [.I e_0,.S e_1,.S e_2,.I e_3,.I e_4_0,.S e_4_1,.L 3 (gJ e_4_2),.L 9 (kP e_5),.L 11 (qD e_6)]],Tryz.f186.ntmps⟩ ?_ ?_
 ·refine gN 13 (fun c2=>?_) (fun c2=>?_)
  ·replace hb1:=gX c2 hb1
   refine goL ?_
   refine uD ?_
   refine jI (gF (gDy bound e_2)) ?_
   refine gN 20 (fun c3=>?_) (fun c3=>?_)
   ·replace hb1:=gX c3 hb1
    refine goL ?_
    refine uD ?_
    refine gFl (gSj (gDy l0 e_2)) ?_
    cases hb1
    exact eJ
   ·replace hb1:=gY c3 hb1
    refine goL ?_
    cases hb1
    exact eJ
  ·replace hb1:=gY c2 hb1
   refine goL ?_
   cases hb1
   exact eJ
 refine goL ?_
 obtain⟨b4,hb4,h⟩:=gK h
 refine gKs (fun v5=>⟨[(1,.L 1 (gZ bound)),(2,.sl 0 v5),(3,.ptr 1 0)],[.own 9 1 v5 (gZ b4),.box [.I e_0,.S e_1,.S e_2,.I e_3,.I e_4_0,.S e_4_1,.L 3 (gJ e_4_2),.L 9 (kP e_5),.L 11 (qD e_6)]],Tryz.f186.ntmps⟩) ?_ (fun v5=>?_)
 ·refine mO (fun c6=>?_) (fun c6=>?_)
  ·replace hb4:=gX c6 hb4
   refine goL ?_
   refine gA7 e_2 ?_
   obtain⟨g7,hb4⟩:=mZ hb4
   refine gGg g7 ?_
   refine goL ?_
   cases hb4
   exact⟨(v0+1),eJ⟩
  ·replace hb4:=gY c6 hb4
   refine gAi ?_
   cases hb4
   exact⟨v0,eJ⟩
 refine goL ?_
 refine noB ?_
 refine vN 1 7 (fun z11=>?_)
 refine kR (fun(y10:Nat) (y8:List (List UInt8)) (v9:Nat)=>⟨[(1,.L 1 (gZ bound)),(2,.sl 0 v9),(3,.ptr 1 0),(7,.N y10)],[.own 9 1 v9 (gZ y8),.box [.I e_0,.S e_1,.S e_2,.I e_3,.I e_4_0,.S e_4_1,.L 3 (gJ e_4_2),.L 9 (kP e_5),.L 11 (qD e_6)]],Tryz.f186.ntmps⟩) (fun y10 y8 v9=>gDg rec_l11Free (jM.mk e_0 e_1 e_2 e_3 (gD.mk e_4_0 e_4_1 e_4_2) e_5 e_6) bound (e_5.drop y10) y10 y8=some r) (fun y10 y8 v9=>e_5.length - y10) 0 b4 v5 eJ h ?_
 rintro y10 y8 v9 h
 refine goL ?_
 refine mO (fun c12=>?_) (fun c12=>?_)
 ·have hky102:=wE c12
  obtain⟨x13,hx13,hdx13⟩:=drop_at hky102
  rw [hdx13,gDg.eq_2] at h
  obtain⟨x13_0,x13_1,x13_2,x13_3,⟨x13_4_0,x13_4_1,x13_4_2⟩,x13_5,x13_6⟩:=x13
  refine noS ?_
  refine kI ?_
  obtain⟨b14,hb14,h⟩:=gK h
  refine gKs (fun v15=>⟨[(1,.L 1 (gZ bound)),(2,.sl 0 v15),(3,.ptr 1 0),(7,.N y10)],[.own 9 1 v15 (gZ b14),.box [.I e_0,.S e_1,.S e_2,.I e_3,.I e_4_0,.S e_4_1,.L 3 (gJ e_4_2),.L 9 (kP e_5),.L 11 (qD e_6)]],Tryz.f186.ntmps⟩) ?_ (fun v15=>?_)
  ·refine jE ?_
   refine goL ?_
   obtain⟨b16,hb16,hb14⟩:=qR hb14
   refine jU ⟨[(1,.L 1 (gZ bound)),(2,.sl 0 v9),(3,.ptr 1 0),(7,.N y10),(8,.L 1 (gZ bound)),(46,.B b16)],[.own 9 1 v9 (gZ y8),.box [.I e_0,.S e_1,.S e_2,.I e_3,.I e_4_0,.S e_4_1,.L 3 (gJ e_4_2),.L 9 (kP e_5),.L 11 (qD e_6)]],Tryz.f186.ntmps⟩ ?_ ?_
   ·refine gN 43 (fun c17=>?_) (fun c17=>?_)
    ·replace hb16:=gX c17 hb16
     refine goL ?_
     cases hb16
     exact eJ
    ·replace hb16:=gY c17 hb16
     refine goL ?_
     cases hb16
     exact eJ
   refine goL ?_
   refine mO (fun c18=>?_) (fun c18=>?_)
   ·replace hb14:=gX c18 hb14
    obtain⟨g19,hb14⟩:=mZ hb14
    obtain⟨g20,hb14⟩:=mZ hb14
    refine gPn (P:=Tryz.prog) Mix.h (.q 1 (.q 3 (.q 4 (.h 0 (.h 2 (.h 5 (.h 6 (.q 7 .nil) .nil) .nil) (.h 5 (.h 2 (.h 6 (.q 7 .nil) .nil) .nil) .nil)) (.h 5 (.h 0 (.h 2 (.h 6 (.q 7 .nil) .nil) .nil) .nil) .nil))))) ⟨[(1,.L 1 (gZ bound)),(2,.sl 0 v9),(3,.ptr 1 0),(7,.N y10),(8,.sl 2 ((0+1)+1))],[.own 9 1 v9 (gZ y8),.box [.I e_0,.S e_1,.S e_2,.I e_3,.I e_4_0,.S e_4_1,.L 3 (gJ e_4_2),.L 9 (kP e_5),.L 11 (qD e_6)],.own 9 1 ((0+1)+1) (gZ (([]++bound)++[e_2])),.dead 1],Tryz.f186.ntmps⟩ (by kernel_rfl) ?_ ?_
    ·refine goT ?_
     refine wQ (hD8 jQ) ?_ ?_
     ·refine wQ (gPm (T:=50) g19 jQ) ?_ ?_
      ·refine jO (gQ0 (T:=50) (e_2:List UInt8) jQ) ?_
       refine jO (gPm (T:=50) g20 jQ) ?_
       refine goT ?_
       refine jW ?_
       exact vG 1 [0,1,2,3]
      refine jO (gQ0 (T:=50) (e_2:List UInt8) jQ) ?_
      refine jO (gPm (T:=50) g19 jQ) ?_
      refine jO (gPm (T:=50) g20 jQ) ?_
      refine goT ?_
      refine jW ?_
      exact vG 1 [0,1,2,3]
     refine jO (gQ0 (T:=50) (e_2:List UInt8) jQ) ?_
     refine jO (hD8 jQ) ?_
     refine jO (gPm (T:=50) g19 jQ) ?_
     refine jO (gPm (T:=50) g20 jQ) ?_
     refine goT ?_
     refine jW ?_
     exact vG 1 [0,1,3,2]
    refine goL ?_
    refine jI (jJ y10 (gSl hx13)) ?_
    refine gKr 2 rfl rfl ?_
    obtain⟨x21,hx21,hb14⟩:=gK hb14
    refine gG0 [0] (hrec_l11Free (jM.mk x13_0 x13_1 x13_2 x13_3 (gD.mk x13_4_0 x13_4_1 x13_4_2) x13_5 x13_6) (([]++bound)++[e_2]) y8 v9 hx21) ?_
    rintro _ _ ⟨v22,rfl,rfl⟩
    show VO _ _ _ _ ⟨(_,.sl 0 v22)::_,[.own 9 1 v22 (gZ x21),.box [.I e_0,.S e_1,.S e_2,.I e_3,.I e_4_0,.S e_4_1,.L 3 (gJ e_4_2),.L 9 (kP e_5),.L 11 (qD e_6)],.frz 9 1 ((0+1)+1) (gZ (([]++bound)++[e_2])),.dead 1],_⟩ _
    refine goL ?_
    cases hb14
    exact⟨v22,eJ⟩
   ·replace hb14:=gY c18 hb14
    refine goS ?_
    refine jI (jJ y10 (gSl hx13)) ?_
    obtain⟨x23,hx23,hb14⟩:=gK hb14
    refine gG0 [0] (hrec_l11Free (jM.mk x13_0 x13_1 x13_2 x13_3 (gD.mk x13_4_0 x13_4_1 x13_4_2) x13_5 x13_6) bound y8 v9 hx23) ?_
    rintro _ _ ⟨v24,rfl,rfl⟩
    show VO _ _ _ _ ⟨(_,.sl 0 v24)::_,[.own 9 1 v24 (gZ x23),.box [.I e_0,.S e_1,.S e_2,.I e_3,.I e_4_0,.S e_4_1,.L 3 (gJ e_4_2),.L 9 (kP e_5),.L 11 (qD e_6)]],_⟩ _
    refine goL ?_
    cases hb14
    exact⟨v24,eJ⟩
  refine goL ?_
  refine jI (jS y10 (by omega)) ?_
  exact⟨(y10+1),b14,v15,h,by omega,eJ⟩
 ·have hky102:=wF c12
  rw [jF hky102,gDg.eq_1] at h
  refine goX ?_
  refine noB ?_
  refine vN 1 8 (fun z28=>?_)
  refine kR (fun(y27:Nat) (y25:List (List UInt8)) (v26:Nat)=>⟨[(1,.L 1 (gZ bound)),(2,.sl 0 v26),(3,.ptr 1 0),(9,.N y27)],[.own 9 1 v26 (gZ y25),.box [.I e_0,.S e_1,.S e_2,.I e_3,.I e_4_0,.S e_4_1,.L 3 (gJ e_4_2),.L 9 (kP e_5),.L 11 (qD e_6)]],Tryz.f186.ntmps⟩) (fun y27 y25 v26=>gDf rec_l11Free bound (e_6.drop y27) y25=some r) (fun y27 y25 v26=>e_6.length - y27) 0 y8 v9 eJ h ?_
  rintro y27 y25 v26 h
  refine goL ?_
  refine mO (fun c29=>?_) (fun c29=>?_)
  ·have hky272:=wE c29
   obtain⟨x30,hx30,hdx30⟩:=drop_at hky272
   rw [hdx30,gDf.eq_2] at h
   obtain⟨x30_0,x30_1,⟨x30_2_0,x30_2_1,x30_2_2,x30_2_3,⟨x30_2_4_0,x30_2_4_1,x30_2_4_2⟩,x30_2_5,x30_2_6⟩⟩:=x30
   refine noS ?_
   refine kI (jE ?_)
   refine uX (P:=Tryz.prog) Mix.h [(0,true),(1,true),(2,true),(3,true),(4,true),(5,true),(7,true),(9,true),(10,true),(11,true),(12,true),(13,true),(14,true),(16,true),(6,false),(8,false),(15,false),(17,false),(18,true)] (by kernel_rfl) ?_
   refine goY ?_
   refine jC rfl (jJ y27 (gXg hx30)) ?_
   refine goY ?_
   refine jC rfl (jJ y27 (gXg hx30)) ?_
   refine goY ?_
   refine hD8 ?_
   obtain⟨g31,h⟩:=mZ h
   refine gPm (T:=50) g31 ?_
   obtain⟨g32,h⟩:=mZ h
   refine gPm (T:=50) g32 ?_
   refine gXz 2 rfl rfl ?_
   obtain⟨x33,hx33,h⟩:=gK h
   refine gX3 [0] (hrec_l11Free (jM.mk x30_2_0 x30_2_1 x30_2_2 x30_2_3 (gD.mk x30_2_4_0 x30_2_4_1 x30_2_4_2) x30_2_5 x30_2_6) (([]++bound)++x30_1) y25 v26 hx33) ?_
   rintro _ _ ⟨v34,rfl,rfl⟩
   refine gT2 (sv:=.sl 0 v34) (L':=[.own 9 1 v34 (gZ x33),.box [.I e_0,.S e_1,.S e_2,.I e_3,.I e_4_0,.S e_4_1,.L 3 (gJ e_4_2),.L 9 (kP e_5),.L 11 (qD e_6)],.frz 9 1 ((0+1)+1) (gZ (([]++bound)++x30_1))]) (by repeat(first | exact yG.nil | (apply yG.keep;focus ((repeat constructor);done)) | (apply yG.dep;focus kernel_rfl))) ?_
   refine goY ?_
   refine kS ?_
   refine goL ?_
   refine jI (jS y27 (by omega)) ?_
   exact⟨(y27+1),x33,v34,h,by omega,eJ⟩
  ·have hky272:=wF c29
   rw [jF hky272,gDf.eq_1] at h
   refine goX ?_
   refine jN ?_
   obtain rfl:=Option.some.inj h
   exact gFk [.sl 0 v26] [.own 9 1 v26 (gZ y25)] ⟨v26,rfl,rfl⟩
def gMc:Nat→jM→(List (List UInt8))→(List (List UInt8))→Option (List (List UInt8))
 | 0,_,_,_=>none
 | n+1,x0,x1,x2=>gMb (gMc n) x0 x1 x2
theorem gWh:∀(n:Nat) (x0:jM) (x1:List (List UInt8)) (x2:List (List UInt8)) (w0:Nat) {r:List (List UInt8)},gMc n x0 x1 x2=some r→Go.Eng.Spec Tryz.prog 186 [.d (yR x0),.L 1 (gZ x1),.sl 0 w0] [.own 9 1 w0 (gZ x2)] (fun sv Lo=>∃v'0,sv=.sl 0 v'0∧Lo=[.own 9 1 v'0 (gZ r)]):=by
 intro n
 induction n with
 | zero=>intro x0 x1 x2 w0 r h;cases h
 | succ n ih=>intro x0 x1 x2 w0 r h;exact gWg ih x0 x1 x2 w0 h
def gFs(rec_l11Left:jM→Int→Option (Int))(a0:jM):Nat→Int→Int→Option (Int)
 | 0,y9,y10=>none
 | n11+1,y9,y10=>lt_ ((cnd (decide (y10 < (a0.arms.length:Int))) ((decide (y9≥0))) (false))) fun b12=>
(cnd b12 (
bnd (at? a0.arms y10) fun x15=>
bnd (rec_l11Left x15.body y9) fun x16=>
gFs rec_l11Left a0 n11 x16 (IntKind.i64.wrap (y10+1))) (
(some y9)))
def gFt(rec_l11Left:jM→Int→Option (Int))(a0:jM)(n0:Nat):Nat→Int→Int→Option (Int)
 | 0,y1,y2=>none
 | n3+1,y1,y2=>lt_ ((cnd (decide (y2 < (a0.args.length:Int))) ((decide (y1≥0))) (false))) fun b4=>
(cnd b4 (
bnd (at? a0.args y2) fun x7=>
bnd (rec_l11Left x7 y1) fun x8=>
gFt rec_l11Left a0 n0 n3 x8 (IntKind.i64.wrap (y2+1))) (
gFs rec_l11Left a0 n0 y1 0))
def gMd(rec_l11Left:jM→Int→Option (Int))(a0:jM)(a1:Int)(n0:Nat):Option (Int):=
gFt rec_l11Left a0 n0 n0 (IntKind.i64.wrap (a1 - 1)) 0
theorem gWi{rec_l11Left:jM→Int→Option (Int)}(hrec_l11Left:∀(x0:jM) (x1:Int) {r:Int},rec_l11Left x0 x1=some r→jB Tryz.prog 187 [.d (yR x0),.I x1] [.i .i64 r])(a0:jM)(a1:Int){n0:Nat}{r:Int}(h:gMd rec_l11Left a0 a1 n0=some r):jB Tryz.prog 187 [.d (yR a0),.I a1] [.i .i64 r]:=by
 obtain⟨a0_0,a0_1,a0_2,a0_3,⟨a0_4_0,a0_4_1,a0_4_2⟩,a0_5,a0_6⟩:=a0
 unfold gMd at h
 refine SpI Tryz.func187 fun A _=>?_
 refine goL ?_
 refine jI (qC) ?_
 refine noB ?_
 refine kR (fun(n3:Nat) (y1:Int) (y2:Int)=>⟨[(1,.I y1),(2,.ptr 0 0),(5,.I y2)],[.box [.I a0_0,.S a0_1,.S a0_2,.I a0_3,.I a0_4_0,.S a0_4_1,.L 3 (gJ a0_4_2),.L 9 (kP a0_5),.L 11 (qD a0_6)]],Tryz.f187.ntmps⟩) (fun n3 y1 y2=>gFt rec_l11Left (jM.mk a0_0 a0_1 a0_2 a0_3 (gD.mk a0_4_0 a0_4_1 a0_4_2) a0_5 a0_6) n0 n3 y1 y2=some r) (fun n3 y1 y2=>n3) n0 (IntKind.i64.wrap (a1 - 1)) 0 eJ h ?_
 rintro n3 y1 y2 h
 rcases n3 with _ | n3
 ·cases h
 rw [gFt.eq_2] at h
 refine goL ?_
 obtain⟨b4,hb4,h⟩:=qR h
 refine jU ⟨[(1,.I y1),(2,.ptr 0 0),(5,.I y2),(17,.B b4)],[.box [.I a0_0,.S a0_1,.S a0_2,.I a0_3,.I a0_4_0,.S a0_4_1,.L 3 (gJ a0_4_2),.L 9 (kP a0_5),.L 11 (qD a0_6)]],Tryz.f187.ntmps⟩ ?_ ?_
 ·refine gN 14 (fun c5=>?_) (fun c5=>?_)
  ·replace hb4:=gX c5 hb4
   refine goL ?_
   cases hb4
   exact eJ
  ·replace hb4:=gY c5 hb4
   refine goL ?_
   cases hb4
   exact eJ
 refine goC h ?_ ?_<;>intro c6 h
 ·refine noS ?_
  refine kI (jE ?_)
  refine goL ?_
  obtain⟨x7,hx7,h⟩:=gK h
  obtain⟨hx70,hx7⟩:=gD6 hx7
  obtain⟨x7_0,x7_1,x7_2,x7_3,⟨x7_4_0,x7_4_1,x7_4_2⟩,x7_5,x7_6⟩:=x7
  refine jI (qU hx70 (gSl hx7)) ?_
  obtain⟨x8,hx8,h⟩:=gK h
  refine jI (gF (hrec_l11Left (jM.mk x7_0 x7_1 x7_2 x7_3 (gD.mk x7_4_0 x7_4_1 x7_4_2) x7_5 x7_6) y1 hx8)) ?_
  refine jI (qC) ?_
  exact⟨n3,x8,(IntKind.i64.wrap (y2+1)),h,Nat.lt_succ_self _,eJ⟩
 ·refine goX ?_
  refine noB ?_
  refine kR (fun(n11:Nat) (y9:Int) (y10:Int)=>⟨[(1,.I y9),(2,.ptr 0 0),(6,.I y10)],[.box [.I a0_0,.S a0_1,.S a0_2,.I a0_3,.I a0_4_0,.S a0_4_1,.L 3 (gJ a0_4_2),.L 9 (kP a0_5),.L 11 (qD a0_6)]],Tryz.f187.ntmps⟩) (fun n11 y9 y10=>gFs rec_l11Left (jM.mk a0_0 a0_1 a0_2 a0_3 (gD.mk a0_4_0 a0_4_1 a0_4_2) a0_5 a0_6) n11 y9 y10=some r) (fun n11 y9 y10=>n11) n0 y1 0 eJ h ?_
  rintro n11 y9 y10 h
  rcases n11 with _ | n11
  ·cases h
  rw [gFs.eq_2] at h
  refine goL ?_
  obtain⟨b12,hb12,h⟩:=qR h
  refine jU ⟨[(1,.I y9),(2,.ptr 0 0),(6,.I y10),(35,.B b12)],[.box [.I a0_0,.S a0_1,.S a0_2,.I a0_3,.I a0_4_0,.S a0_4_1,.L 3 (gJ a0_4_2),.L 9 (kP a0_5),.L 11 (qD a0_6)]],Tryz.f187.ntmps⟩ ?_ ?_
  ·refine gN 32 (fun c13=>?_) (fun c13=>?_)
   ·replace hb12:=gX c13 hb12
    refine goL ?_
    cases hb12
    exact eJ
   ·replace hb12:=gY c13 hb12
    refine goL ?_
    cases hb12
    exact eJ
  refine goC h ?_ ?_<;>intro c14 h
  ·refine noS ?_
   refine kI (jE ?_)
   refine goL ?_
   obtain⟨x15,hx15,h⟩:=gK h
   obtain⟨hx150,hx15⟩:=gD6 hx15
   obtain⟨x15_0,x15_1,⟨x15_2_0,x15_2_1,x15_2_2,x15_2_3,⟨x15_2_4_0,x15_2_4_1,x15_2_4_2⟩,x15_2_5,x15_2_6⟩⟩:=x15
   refine jI (qU hx150 (gXg hx15)) ?_
   obtain⟨x16,hx16,h⟩:=gK h
   refine jI (gF (hrec_l11Left (jM.mk x15_2_0 x15_2_1 x15_2_2 x15_2_3 (gD.mk x15_2_4_0 x15_2_4_1 x15_2_4_2) x15_2_5 x15_2_6) y9 hx16)) ?_
   refine jI (qC) ?_
   exact⟨n11,x16,(IntKind.i64.wrap (y10+1)),h,Nat.lt_succ_self _,eJ⟩
  ·refine goX ?_
   refine jN ?_
   cases h
   exact qK
def gMe:Nat→jM→Int→Option (Int)
 | 0,_,_=>none
 | n+1,x0,x1=>gMd (gMe n) x0 x1 n
theorem gWj:∀(n:Nat) (x0:jM) (x1:Int) {r:Int},gMe n x0 x1=some r→jB Tryz.prog 187 [.d (yR x0),.I x1] [.i .i64 r]:=by
 intro n
 induction n with
 | zero=>intro x0 x1 r h;cases h
 | succ n ih=>intro x0 x1 r h;exact gWi ih x0 x1 h
def yN(a0:gD):Bool:=
lt_ ((cnd (a0.kind==0) ((cnd (a0.name==[]) (((a0.args.length:Int)==0)) (false))) (false))) fun b1=>
b1
theorem gBa(a0:gD):jB Tryz.prog 154 [.d (jP a0)] [.b (yN a0)]:=by
 obtain⟨r,h⟩:∃r,yN a0=r:=⟨_,rfl⟩
 rw [h]
 obtain⟨a0_0,a0_1,a0_2⟩:=a0
 unfold yN at h
 refine SpI Tryz.func154 fun A _=>?_
 refine goL ?_
 obtain⟨b1,hb1,h⟩:=qR h
 refine jU ⟨[(2,.B b1)],[.box [.I a0_0,.S a0_1,.L 3 (gJ a0_2)]],Tryz.f154.ntmps⟩ ?_ ?_
 ·refine gN 6 (fun c2=>?_) (fun c2=>?_) (by first | rfl | (simp only [jG,gU];rfl))
  ·replace hb1:=gX c2 hb1
   refine goL ?_
   refine gN 11 (fun c3=>?_) (fun c3=>?_) (by first | rfl | (simp only [jG,gU];rfl))
   ·replace hb1:=gX c3 hb1
    refine goL ?_
    cases hb1
    exact⟨rfl,⟨⟨by first | rfl | (simp only [jG,gU];rfl),rfl⟩,trivial⟩,⟨_,rfl⟩,rfl⟩
   ·replace hb1:=gY c3 hb1
    refine goL ?_
    cases hb1
    exact⟨rfl,⟨⟨by first | rfl | (simp only [jG,gU];rfl),rfl⟩,trivial⟩,⟨_,rfl⟩,rfl⟩
  ·replace hb1:=gY c2 hb1
   refine goL ?_
   cases hb1
   exact⟨rfl,⟨⟨by first | rfl | (simp only [jG,gU];rfl),rfl⟩,trivial⟩,⟨_,rfl⟩,rfl⟩
 refine goL ?_
 refine jN ?_
 subst h
 exact qK
def gEc(a0:Int):Bool × Bool × Bool × Bool × Int × Bool:=
(cnd (a0==1) (
(false,false,true,false,0,false)) (
(cnd (a0==2) (
(false,false,true,false,0,false)) (
(cnd (a0==3) (
(false,true,false,false,0,false)) (
(cnd (a0==4) (
(false,true,false,false,(-1),false)) (
(cnd (a0==6) (
(false,true,false,false,(-1),false)) (
(cnd (a0==5) (
(true,true,false,false,(-1),false)) (
(cnd (a0==7) (
(false,false,false,false,1,true)) (
(cnd (a0==8) (
(false,true,false,false,2,false)) (
(cnd (a0==10) (
(false,true,false,false,2,false)) (
(cnd (a0==9) (
(false,false,false,false,3,false)) (
(cnd (a0==11) (
(true,false,false,false,1,false)) (
(false,false,false,true,1,false)))))))))))))))))))))))
theorem gZ1(a0:Int):jB Tryz.prog 195 [.I a0] [.b (gEc a0).1,.b (gEc a0).2.1,.b (gEc a0).2.2.1,.b (gEc a0).2.2.2.1,.i .i64 (gEc a0).2.2.2.2.1,.b (gEc a0).2.2.2.2.2]:=by
 obtain⟨r,h⟩:∃r,gEc a0=r:=⟨_,rfl⟩
 rw [h]
 unfold gEc at h
 refine SpI Tryz.func195 fun A _=>?_
 refine goL ?_
 refine jE ?_
 refine goC h ?_ ?_<;>intro c1 h
 ·refine noS ?_
  refine mO (fun c2=>?_) (fun c2=>?_)
  ·refine goL ?_
   refine jN ?_
   subst h
   exact qK
  ·exact absurd (c1.symm.trans c2) (by decide)
 ·refine goC h ?_ ?_<;>intro c3 h
  ·refine goL ?_
   refine jN ?_
   subst h
   exact qK
  ·refine goC h ?_ ?_<;>intro c4 h
   ·refine goL ?_
    refine jN ?_
    subst h
    exact qK
   ·refine goC h ?_ ?_<;>intro c5 h
    ·refine noS ?_
     refine mO (fun c6=>?_) (fun c6=>?_)
     ·refine goL ?_
      refine jN ?_
      subst h
      exact qK
     ·exact absurd (c5.symm.trans c6) (by decide)
    ·refine goC h ?_ ?_<;>intro c7 h
     ·refine goL ?_
      refine jN ?_
      subst h
      exact qK
     ·refine goC h ?_ ?_<;>intro c8 h
      ·refine goL ?_
       refine jN ?_
       subst h
       exact qK
      ·refine goC h ?_ ?_<;>intro c9 h
       ·refine goL ?_
        refine jN ?_
        subst h
        exact qK
       ·refine goC h ?_ ?_<;>intro c10 h
        ·refine noS ?_
         refine mO (fun c11=>?_) (fun c11=>?_)
         ·refine goL ?_
          refine jN ?_
          subst h
          exact qK
         ·exact absurd (c10.symm.trans c11) (by decide)
        ·refine goC h ?_ ?_<;>intro c12 h
         ·refine goL ?_
          refine jN ?_
          subst h
          exact qK
         ·refine goC h ?_ ?_<;>intro c13 h
          ·refine goL ?_
           refine jN ?_
           subst h
           exact qK
          ·refine goC h ?_ ?_<;>intro c14 h
           ·refine goL ?_
            refine jN ?_
            subst h
            exact qK
           ·refine goS ?_
            refine jN ?_
            subst h
            exact qK
def gJv(a0:List UInt8):Bool:=
(vQ [[43],[45],[42],[60],[61]] a0)
theorem gWk(a0:List UInt8):jB Tryz.prog 196 [.S a0] [.b (gJv a0)]:=by
 obtain⟨r,h⟩:∃r,gJv a0=r:=⟨_,rfl⟩
 rw [h]
 unfold gJv at h
 refine SpI Tryz.func196 fun A _=>?_
 refine goL ?_
 refine gM3 (us:=gZ [[43],[45],[42],[60],[61]]) ?_
 refine goL ?_
 refine gFl (gSj (gDy [[43],[45],[42],[60],[61]] a0)) ?_
 refine jN ?_
 subst h
 exact qK
def gCf(a1:List (List UInt8)):List (List UInt8)→Nat→Option (Bool)
 | [],y2=>(some true)
 | x5::xs,y2=>bnd (at? a1 (y2:Int)) fun x6=>
(cnd (!(x5==x6)) (
(some false)) (
gCf a1 xs (y2+1)))
def gKi(a0:List (List UInt8))(a1:List (List UInt8)):Option (Bool):=
(cnd ((a0.length:Int) !=(a1.length:Int)) (
(some false)) (
gCf a1 a0 0))
theorem gU5(a0:List (List UInt8))(a1:List (List UInt8)){r:Bool}(h:gKi a0 a1=some r):jB Tryz.prog 194 [.L 1 (gZ a0),.L 1 (gZ a1)] [.b r]:=by
 unfold gKi at h
 refine SpI Tryz.func194 fun A _=>?_
 refine goC h ?_ ?_<;>intro c1 h
 ·exact goR h
 ·refine goS ?_
  refine noB ?_
  refine gFj 0 (fun z3=>?_)
  refine pJ (fun(y2:Nat)=>⟨[(0,.L 1 (gZ a0)),(1,.L 1 (gZ a1)),(5,.N y2)],[],Tryz.f194.ntmps⟩) (fun y2=>gCf a1 (a0.drop y2) y2=some r) (fun y2=>a0.length - y2) 0 eJ h ?_
  rintro y2 h
  refine goL ?_
  refine mO (fun c4=>?_) (fun c4=>?_)
  ·have hky22:=wE c4
   obtain⟨x5,hx5,hdx5⟩:=drop_at hky22
   rw [hdx5,gCf.eq_2] at h
   refine noS ?_
   refine kI (jE ?_)
   refine goL ?_
   refine gDm (jJ y2 (gOe hx5)) ?_
   refine goL ?_
   obtain⟨x6,hx6,h⟩:=gK h
   rw [gD7] at hx6
   refine gDm (jJ y2 (gOe hx6)) ?_
   refine goC h ?_ ?_<;>intro c7 h
   ·exact goR h
   ·refine goS ?_
    refine jI (jS y2 (by omega)) ?_
    exact⟨(y2+1),h,by omega,eJ⟩
  ·have hky22:=wF c4
   rw [jF hky22,gCf.eq_1] at h
   refine goX ?_
   refine jN ?_
   cases h
   exact qK
def kV(a0:List UInt8):gB:=
(gB.mk a0 [])
theorem mG(a0:List UInt8):jB Tryz.prog 142 [.S a0] [mF (kV a0)]:=by
 obtain⟨r,h⟩:∃r,kV a0=r:=⟨_,rfl⟩
 rw [h]
 unfold kV at h
 refine SpI Tryz.func142 fun A _=>?_
 refine goL ?_
 refine gFl (kD TBd.h TZ.h rfl (by repeat constructor)) ?_
 refine jN ?_
 subst h
 exact qK
def wJ(rec_sHasProjection:gD→Option (Bool))(a0:gD):List gD→Option (Bool)
 | []=>(some (a0.kind==3))
 | x4::xs=>bnd (rec_sHasProjection x4) fun x5=>
(cnd x5 (
(some true)) (
wJ rec_sHasProjection a0 xs ))
def gD0(rec_sHasProjection:gD→Option (Bool))(a0:gD):Option (Bool):=
wJ rec_sHasProjection a0 a0.args
theorem gLf{rec_sHasProjection:gD→Option (Bool)}(hrec_sHasProjection:∀(x0:gD) {r:Bool},rec_sHasProjection x0=some r→jB Tryz.prog 152 [.d (jP x0)] [.b r])(a0:gD){r:Bool}(h:gD0 rec_sHasProjection a0=some r):jB Tryz.prog 152 [.d (jP a0)] [.b r]:=by
 obtain⟨a0_0,a0_1,a0_2⟩:=a0
 unfold gD0 at h
 refine SpI Tryz.func152 fun A _=>?_
 refine goL ?_
 refine noB ?_
 refine vN 0 2 (fun z2=>?_)
 refine pJ (fun(y1:Nat)=>⟨[(1,.ptr 0 0),(3,.N y1)],[.box [.I a0_0,.S a0_1,.L 3 (gJ a0_2)]],Tryz.f152.ntmps⟩) (fun y1=>wJ rec_sHasProjection (gD.mk a0_0 a0_1 a0_2) (a0_2.drop y1)  =some r) (fun y1=>a0_2.length - y1) 0 eJ h ?_
 rintro y1 h
 refine goL ?_
 refine mO (fun c3=>?_) (fun c3=>?_)
 ·have hky12:=wE c3
  obtain⟨x4,hx4,hdx4⟩:=drop_at hky12
  rw [hdx4,wJ.eq_2] at h
  obtain⟨x4_0,x4_1,x4_2⟩:=x4
  refine noS ?_
  refine kI (jE ?_)
  refine goL ?_
  refine jI (jJ y1 (gBb hx4)) ?_
  obtain⟨x5,hx5,h⟩:=gK h
  refine jI (gF (hrec_sHasProjection (gD.mk x4_0 x4_1 x4_2) hx5)) ?_
  refine mO (fun c6=>?_) (fun c6=>?_)
  ·replace h:=gX c6 h
   exact goR h
  ·replace h:=gY c6 h
   refine goS ?_
   refine jI (jS y1 (by omega)) ?_
   exact⟨(y1+1),h,by omega,eJ⟩
 ·have hky12:=wF c3
  rw [jF hky12,wJ.eq_1] at h
  refine goX ?_
  refine jN ?_
  cases h
  exact qK
def gBh:Nat→gD→Option (Bool)
 | 0,_=>none
 | n+1,x0=>gD0 (gBh n) x0
theorem gHc:∀(n:Nat) (x0:gD) {r:Bool},gBh n x0=some r→jB Tryz.prog 152 [.d (jP x0)] [.b r]:=by
 intro n
 induction n with
 | zero=>intro x0 r h;cases h
 | succ n ih=>intro x0 r h;exact gLf ih x0 h
def gCg(k3_0:(List (List UInt8))→Option (List (List UInt8) × List (List UInt8) × List (List UInt8) × List (List UInt8))):List pO→(List (List UInt8))→Option (List (List UInt8) × List (List UInt8) × List (List UInt8) × List (List UInt8))
 | [],y17=>(k3_0 y17)
 | x22::xs,y17=>gd (y17.length+[x22.name].length≤4294967296) (
gCg k3_0 xs (y17++[x22.name]))
def gCh(y1:List (List UInt8))(y8:List (List UInt8))(y10:List (List UInt8)):List mD→(List (List UInt8))→Option (List (List UInt8) × List (List UInt8) × List (List UInt8) × List (List UInt8))
 | [],y24=>(some (y1,y8,y10,y24))
 | x29::xs,y24=>gd (y24.length+[x29.name].length≤4294967296) (
gCh y1 y8 y10 xs (y24++[x29.name]))
def gAu(a0:jX)(y1:List (List UInt8)):List kY→(List (List UInt8))→(List (List UInt8))→Option (List (List UInt8) × List (List UInt8) × List (List UInt8) × List (List UInt8))
 | [],y8,y10=>gCh y1 y8 y10 a0.functions []
 | x15::xs,y8,y10=>gd (y8.length+[x15.name].length≤4294967296) (
gCg (fun y17=>gAu a0 y1 xs (y8++[x15.name]) y17) x15.constructors y10)
def gCi(a0:jX):List qV→(List (List UInt8))→Option (List (List UInt8) × List (List UInt8) × List (List UInt8) × List (List UInt8))
 | [],y1=>gAu a0 y1 a0.dataTypes [] []
 | x6::xs,y1=>gd (y1.length+[x6.name].length≤4294967296) (
gCi a0 xs (y1++[x6.name]))
def gKj(a0:jX):Option (List (List UInt8) × List (List UInt8) × List (List UInt8) × List (List UInt8)):=
gCi a0 a0.traits []
theorem gU6(a0:jX){r:List (List UInt8) × List (List UInt8) × List (List UInt8) × List (List UInt8)}(h:gKj a0=some r):jB Tryz.prog 100 [.d (gC6 a0)] [.sl 1 (gZ r.1),.sl 1 (gZ r.2.1),.sl 1 (gZ r.2.2.1),.sl 1 (gZ r.2.2.2)]:=by
 obtain⟨a0_0,a0_1,a0_2,a0_3,a0_4,a0_5⟩:=a0
 unfold gKj at h
 refine SpI Tryz.func100 fun A _=>?_
 refine goL ?_
 refine gFc ?_
 refine goL ?_
 refine gFc ?_
 refine goL ?_
 refine gFc ?_
 refine goL ?_
 refine gFc ?_
 refine goL ?_
 refine noB ?_
 refine vN 0 2 (fun z4=>?_)
 refine kR (fun(y3:Nat) (y1:List (List UInt8)) (v2:Nat)=>⟨[(1,.ptr 0 0),(6,.sl 1 v2),(7,.sl 2 0),(8,.sl 3 0),(9,.sl 4 0),(10,.N y3)],[.box [.S a0_0,.L 1 (gZ a0_1),.L 5 (uC a0_2),.L 3 (mI a0_3),.L 12 (mJ a0_4),.L 16 (mK a0_5)],.own 9 1 v2 (gZ y1),.own 9 1 0 [],.own 9 1 0 [],.own 9 1 0 []],Tryz.f100.ntmps⟩) (fun y3 y1 v2=>gCi (jX.mk a0_0 a0_1 a0_2 a0_3 a0_4 a0_5) (a0_2.drop y3) y1=some r) (fun y3 y1 v2=>a0_2.length - y3) 0 [] 0 eJ h ?_
 rintro y3 y1 v2 h
 refine goL ?_
 refine mO (fun c5=>?_) (fun c5=>?_)
 ·have hky32:=wE c5
  obtain⟨x6,hx6,hdx6⟩:=drop_at hky32
  rw [hdx6,gCi.eq_2] at h
  obtain⟨x6_0,x6_1,x6_2,x6_3,x6_4⟩:=x6
  refine noS ?_
  refine kI (jE ?_)
  refine goL ?_
  refine jI (jJ y3 (gTu hx6)) ?_
  refine gA7 x6_0 ?_
  obtain⟨g7,h⟩:=mZ h
  refine gGg g7 ?_
  refine goL ?_
  refine jI (jS y3 (by omega)) ?_
  exact⟨(y3+1),(y1++[x6_0]),(v2+1),h,by omega,eJ⟩
 ·have hky32:=wF c5
  rw [jF hky32,gCi.eq_1] at h
  refine goX ?_
  refine noB ?_
  refine vN 0 3 (fun z13=>?_)
  refine gSn (fun(y12:Nat) (y8:List (List UInt8)) (y10:List (List UInt8)) (v9:Nat) (v11:Nat)=>⟨[(1,.ptr 0 0),(6,.sl 1 v2),(7,.sl 2 v9),(8,.sl 3 v11),(9,.sl 4 0),(11,.N y12)],[.box [.S a0_0,.L 1 (gZ a0_1),.L 5 (uC a0_2),.L 3 (mI a0_3),.L 12 (mJ a0_4),.L 16 (mK a0_5)],.own 9 1 v2 (gZ y1),.own 9 1 v9 (gZ y8),.own 9 1 v11 (gZ y10),.own 9 1 0 []],Tryz.f100.ntmps⟩) (fun y12 y8 y10 v9 v11=>gAu (jX.mk a0_0 a0_1 a0_2 a0_3 a0_4 a0_5) y1 (a0_3.drop y12) y8 y10=some r) (fun y12 y8 y10 v9 v11=>a0_3.length - y12) 0 [] [] 0 0 eJ h ?_
  rintro y12 y8 y10 v9 v11 h
  refine goL ?_
  refine mO (fun c14=>?_) (fun c14=>?_)
  ·have hky122:=wE c14
   obtain⟨x15,hx15,hdx15⟩:=drop_at hky122
   rw [hdx15,gAu.eq_2] at h
   obtain⟨x15_0,x15_1,x15_2⟩:=x15
   refine noS ?_
   refine kI (jE ?_)
   refine goL ?_
   refine jI (jJ y12 (gJ4 hx15)) ?_
   refine gA7 x15_0 ?_
   obtain⟨g16,h⟩:=mZ h
   refine gGg g16 ?_
   refine goL ?_
   refine noB ?_
   refine kR (fun(y19:Nat) (y17:List (List UInt8)) (v18:Nat)=>⟨[(1,.ptr 0 0),(6,.sl 1 v2),(7,.sl 2 (v9+1)),(8,.sl 3 v18),(9,.sl 4 0),(11,.N y12),(12,.N y19)],[.box [.S a0_0,.L 1 (gZ a0_1),.L 5 (uC a0_2),.L 3 (mI a0_3),.L 12 (mJ a0_4),.L 16 (mK a0_5)],.own 9 1 v2 (gZ y1),.own 9 1 (v9+1) (gZ (y8++[x15_0])),.own 9 1 v18 (gZ y17),.own 9 1 0 [],.dead 1],Tryz.f100.ntmps⟩) (fun y19 y17 v18=>gCg (fun y17=>gAu (jX.mk a0_0 a0_1 a0_2 a0_3 a0_4 a0_5) y1 (a0_3.drop (y12+1)) (y8++[(kY.mk x15_0 x15_1 x15_2).name]) y17) (x15_2.drop y19) y17=some r) (fun y19 y17 v18=>x15_2.length - y19) 0 y10 v11 eJ h ?_
   rintro y19 y17 v18 h
   refine goL ?_
   refine jI (jJ y12 (gJ4 hx15)) ?_
   refine mO (fun c20=>?_) (fun c20=>?_)
   ·have hky192:=wE c20
    refine gFj 56 (fun z21=>?_)
    obtain⟨x22,hx22,hdx22⟩:=drop_at hky192
    rw [hdx22,gCg.eq_2] at h
    obtain⟨x22_0,x22_1⟩:=x22
    refine noS ?_
    refine kI (jE ?_)
    refine goL ?_
    refine jI (jJ y12 (gJ4 hx15)) ?_
    refine jI (jJ y19 (gBu hx22)) ?_
    refine gA7 x22_0 ?_
    obtain⟨g23,h⟩:=mZ h
    refine gGg g23 ?_
    refine goL ?_
    refine jI (jS y19 (by omega)) ?_
    exact⟨(y19+1),(y17++[x22_0]),(v18+1),h,by omega,eJ⟩
   ·have hky192:=wF c20
    rw [jF hky192,gCg.eq_1] at h
    refine goX ?_
    refine jI (jS y12 (by omega)) ?_
    exact⟨(y12+1),(y8++[x15_0]),y17,(v9+1),v18,h,by omega,eJ⟩
  ·have hky122:=wF c14
   rw [jF hky122,gAu.eq_1] at h
   refine goX ?_
   refine noB ?_
   refine vN 0 5 (fun z27=>?_)
   refine kR (fun(y26:Nat) (y24:List (List UInt8)) (v25:Nat)=>⟨[(1,.ptr 0 0),(6,.sl 1 v2),(7,.sl 2 v9),(8,.sl 3 v11),(9,.sl 4 v25),(13,.N y26)],[.box [.S a0_0,.L 1 (gZ a0_1),.L 5 (uC a0_2),.L 3 (mI a0_3),.L 12 (mJ a0_4),.L 16 (mK a0_5)],.own 9 1 v2 (gZ y1),.own 9 1 v9 (gZ y8),.own 9 1 v11 (gZ y10),.own 9 1 v25 (gZ y24)],Tryz.f100.ntmps⟩) (fun y26 y24 v25=>gCh y1 y8 y10 (a0_5.drop y26) y24=some r) (fun y26 y24 v25=>a0_5.length - y26) 0 [] 0 eJ h ?_
   rintro y26 y24 v25 h
   refine goL ?_
   refine mO (fun c28=>?_) (fun c28=>?_)
   ·have hky262:=wE c28
    obtain⟨x29,hx29,hdx29⟩:=drop_at hky262
    rw [hdx29,gCh.eq_2] at h
    obtain⟨x29_0,x29_1,x29_2,x29_3,⟨x29_4_0,x29_4_1,x29_4_2⟩,⟨x29_5_0,x29_5_1,x29_5_2,x29_5_3,⟨x29_5_4_0,x29_5_4_1,x29_5_4_2⟩,x29_5_5,x29_5_6⟩⟩:=x29
    refine noS ?_
    refine kI (jE ?_)
    refine goL ?_
    refine jI (jJ y26 (gQv hx29)) ?_
    refine gA7 x29_0 ?_
    obtain⟨g30,h⟩:=mZ h
    refine gGg g30 ?_
    refine goL ?_
    refine jI (jS y26 (by omega)) ?_
    exact⟨(y26+1),(y24++[x29_0]),(v25+1),h,by omega,eJ⟩
   ·have hky262:=wF c28
    rw [jF hky262,gCh.eq_1] at h
    refine goX ?_
    refine wL 1 rfl rfl ?_
    refine wL 2 rfl rfl ?_
    refine wL 3 rfl rfl ?_
    refine wL 4 rfl rfl ?_
    refine jN ?_
    cases h
    exact qK
end Go.Proofs.YtfaplndgbgoaaaaGreatDoor
