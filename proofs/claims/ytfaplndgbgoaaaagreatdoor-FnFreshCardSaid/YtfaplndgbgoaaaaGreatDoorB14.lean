import Derived.Test.YtfaplndgbgoaaaaGreatDoorEng38
import Derived.Test.YtfaplndgbgoaaaaGreatDoorEng67
import Derived.Test.YtfaplndgbgoaaaaGreatDoorVr
import Derived.Test.YtfaplndgbgoaaaaGreatDoorSfi0
import Derived.Test.YtfaplndgbgoaaaaGreatDoorB2
import Derived.Test.YtfaplndgbgoaaaaGreatDoorB3
import Derived.Test.YtfaplndgbgoaaaaGreatDoorB5
import Derived.Test.YtfaplndgbgoaaaaGreatDoorB6
import Derived.Test.YtfaplndgbgoaaaaGreatDoorB7
import Derived.Test.YtfaplndgbgoaaaaGreatDoorB11
import Derived.Test.YtfaplndgbgoaaaaGreatDoorB13
set_option maxHeartbeats 4000000
set_option linter.unusedVariables false
set_option linter.unusedSimpArgs false
set_option linter.unusedSectionVars false
namespace Go.Proofs.YtfaplndgbgoaaaaGreatDoor
open Go Go.Eng
attribute [local irreducible] V VO VQ VY Quiet QR jB kX Rng uJ uY qW
def zR(a0:List (List UInt8)):Option (gB):=
bnd (gJx a0) fun x1=>
(some (gB.mk [] x1))
theorem qQ(a0:List (List UInt8)){r:gB}(h:zR a0=some r):jB Tryz.prog 143 [.L 1 (gZ a0)] [mF r]:=by
 unfold zR at h
 refine SpI Tryz.func143 fun A _=>?_
 refine goL ?_
 obtain⟨x1,hx1,h⟩:=gK h
 refine qP (gF (gQl a0 hx1)) ?_
 refine gA6 (kD TBd.h TZ.h rfl (by repeat constructor)) ?_
 exact goR h
def gB2:List gD→(List gB)→Option (List gB)
 | [],y1=>(some y1)
 | x6::xs,y1=>bnd (gIw 5000 x6) fun x7=>
gd (y1.length+[x7].length≤4294967296) (
gB2 xs (y1++[x7]))
def gIc(a0:List gD):Option (List gB):=
gB2 a0 []
theorem gN5(a0:List gD){r:List gB}(h:gIc a0=some r):jB Tryz.prog 144 [.L 3 (gJ a0)] [.sl 2 (gM r)]:=by
 unfold gIc at h
 refine SpI Tryz.func144 fun A _=>?_
 refine goL ?_
 refine zN ?_
 refine goL ?_
 refine noB ?_
 refine gFj 0 (fun z4=>?_)
 refine kR (fun(y3:Nat) (y1:List gB) (v2:Nat)=>⟨[(0,.L 3 (gJ a0)),(3,.sl 0 v2),(4,.N y3)],[.arr 107 2 v2 (gM y1)],Tryz.f144.ntmps⟩) (fun y3 y1 v2=>gB2 (a0.drop y3) y1=some r) (fun y3 y1 v2=>a0.length - y3) 0 [] 0 eJ h ?_
 rintro y3 y1 v2 h
 refine goL ?_
 refine mO (fun c5=>?_) (fun c5=>?_)
 ·have hky32:=wE c5
  obtain⟨x6,hx6,hdx6⟩:=drop_at hky32
  rw [hdx6,gB2.eq_2] at h
  obtain⟨x6_0,x6_1,x6_2⟩:=x6
  refine noS ?_
  refine kI (jE ?_)
  refine goL ?_
  refine jI (jJ y3 (gBb hx6)) ?_
  obtain⟨⟨x7_0,x7_1⟩,hx7,h⟩:=gK h
  refine qP (gF (gHd 5000 (gD.mk x6_0 x6_1 x6_2) hx7)) ?_
  refine gBc (u:=(.st [.s x7_0,.sl 2 (gM x7_1)])) ?_
  obtain⟨g8,h⟩:=mZ h
  refine gBf g8 ?_
  refine goL ?_
  refine jI (jS y3 (by omega)) ?_
  exact⟨(y3+1),(y1++[(gB.mk x7_0 x7_1)]),(v2+1),h,by omega,eJ⟩
 ·have hky32:=wF c5
  rw [jF hky32,gB2.eq_1] at h
  refine goX ?_
  refine kK 0 rfl rfl ?_
  refine jN ?_
  cases h
  exact qK
def gDb(rec_l12Sx:jM→Option (gB)):List jM→(List gB)→Option (List UInt8 × List gB)
 | [],y1=>(some ([],y1))
 | x6::xs,y1=>bnd (rec_l12Sx x6) fun x7=>
gd (y1.length+[x7].length≤4294967296) (
gDb rec_l12Sx xs (y1++[x7]))
def gL4(rec_l12Args:(List gB)→(List jM)→Option (List UInt8 × List gB))(rec_l12Sx:jM→Option (gB))(l0:List gB)(list:List jM):Option (List UInt8 × List gB):=
gDb rec_l12Sx list l0
theorem gWa{rec_l12Args:(List gB)→(List jM)→Option (List UInt8 × List gB)}{rec_l12Sx:jM→Option (gB)}(hrec_l12Args:∀(x0:List gB) (x1:List jM) (w0:Nat) {r:List UInt8 × List gB},rec_l12Args x0 x1=some r→Go.Eng.Spec Tryz.prog 166 [.sl 0 w0,.L 9 (kP x1)] [.arr 107 2 w0 (gM x0)] (fun sv Lo=>sv=.ag [.S r.1,.sl 0 (w0+1)]∧Lo=[.arr 107 2 (w0+1) (gM r.2)]))(hrec_l12Sx:∀(x0:jM) {r:gB},rec_l12Sx x0=some r→jB Tryz.prog 146 [.d (yR x0)] [mF r])(l0:List gB)(list:List jM)(v0:Nat){r:List UInt8 × List gB}(h:gL4 rec_l12Args rec_l12Sx l0 list=some r):Go.Eng.Spec Tryz.prog 166 [.sl 0 v0,.L 9 (kP list)] [.arr 107 2 v0 (gM l0)] (fun sv Lo=>sv=.ag [.S r.1,.sl 0 (v0+1)]∧Lo=[.arr 107 2 (v0+1) (gM r.2)]):=by
 unfold gL4 at h
 refine Spec.verF (g:=fun v'=>.ag [.S r.1,.sl 0 v']) ?_ (fun _ _ _ _ _ hh=>hG8 hh)
 refine mP 1 Tryz.func166 rfl (by kernel_rfl) rfl rfl fun A _=>?_
 refine goL ?_
 refine gFl (kD TBd.h TZ.h rfl (by repeat constructor)) ?_
 refine noB ?_
 refine gFj 1 (fun z4=>?_)
 refine kR (fun(y3:Nat) (y1:List gB) (v2:Nat)=>⟨[(1,.L 9 (kP list)),(4,.ptr 1 0),(5,.ptr 2 0),(6,.N y3)],[.arr 107 2 v2 (gM y1),.box [.S [],.nilsl],.box [.S [],.sl 0 v2]],Tryz.f166.ntmps⟩) (fun y3 y1 v2=>gDb rec_l12Sx (list.drop y3) y1=some r) (fun y3 y1 v2=>list.length - y3) 0 l0 v0 eJ h ?_
 rintro y3 y1 v2 h
 refine goL ?_
 refine mO (fun c5=>?_) (fun c5=>?_)
 ·have hky32:=wE c5
  obtain⟨x6,hx6,hdx6⟩:=drop_at hky32
  rw [hdx6,gDb.eq_2] at h
  obtain⟨x6_0,x6_1,x6_2,x6_3,⟨x6_4_0,x6_4_1,x6_4_2⟩,x6_5,x6_6⟩:=x6
  refine noS ?_
  refine kI (jE ?_)
  refine uX (P:=Tryz.prog) Mix.h [(0,true),(1,true),(2,true),(3,true),(4,true),(5,true),(6,true),(7,false),(8,false),(9,true),(10,false)] (by kernel_rfl) ?_
  refine goY ?_
  refine jC rfl (jJ y3 (gSl hx6)) ?_
  refine goY ?_
  obtain⟨⟨x7_0,x7_1⟩,hx7,h⟩:=gK h
  refine jC rfl (gF (hrec_l12Sx (jM.mk x6_0 x6_1 x6_2 x6_3 (gD.mk x6_4_0 x6_4_1 x6_4_2) x6_5 x6_6) hx7)) ?_
  refine pY (T:=105) (us:=gM [(gB.mk x7_0 x7_1)]) ?_
  obtain⟨g8,h⟩:=mZ h
  refine pV (T:=105) g8 ?_
  refine goY ?_
  refine kS ?_
  refine goL ?_
  refine jI (jS y3 (by omega)) ?_
  exact⟨(y3+1),(y1++[(gB.mk x7_0 x7_1)]),(v2+1),h,by omega,eJ⟩
 ·have hky32:=wF c5
  rw [jF hky32,gDb.eq_1] at h
  refine goX ?_
  refine jN ?_
  obtain rfl:=Option.some.inj h
  exact gFk [.ag [.S [],.sl 0 v2]] [.arr 107 2 v2 (gM y1)] ⟨v2,rfl,rfl⟩
def gF8(rec_l12Sx:jM→Option (gB))(x41:List UInt8 × List gB):List gJa→(List gB)→Option (gB)
 | [],y42=>(some (gB.mk x41.1 y42))
 | x47::xs,y42=>lt_ (kV x47.constructor) fun x48=>
bnd (gJx x47.vars) fun x49=>
gd ([x48].length+x49.length≤4294967296) (
bnd (rec_l12Sx x47.body) fun x51=>
gd (([x48]++x49).length+[x51].length≤4294967296) (
gd (y42.length+[(gB.mk [] (([x48]++x49)++[x51]))].length≤4294967296) (
gF8 rec_l12Sx x41 xs (y42++[(gB.mk [] (([x48]++x49)++[x51]))]))))
def gR7(rec_l12Args:(List gB)→(List jM)→Option (List UInt8 × List gB))(rec_l12Sx:jM→Option (gB))(a0:jM):Option (gB):=
(cnd (a0.kind==1) (
gd (zH a0.n) (lt_ (kV (Lib.itoa a0.n)) fun x3=>
(some x3))) (
(cnd (a0.kind==2) (
bnd (at? [[102,97,108,115,101],[116,114,117,101]] a0.n) fun x5=>
lt_ (kV x5) fun x6=>
(some x6)) (
(cnd (a0.kind==3) (
lt_ (kV a0.name) fun x8=>
(some x8)) (
(cnd (a0.kind==4) (
lt_ (kV [99,97,108,108]) fun x10=>
lt_ (kV a0.name) fun x11=>
bnd (rec_l12Args [x10,x11] a0.args) fun x12=>
(some (gB.mk x12.1 x12.2))) (
(cnd (a0.kind==5) (
lt_ (kV [109,101,116,104,111,100]) fun x14=>
lt_ (kV a0.trait) fun x15=>
lt_ (kV a0.name) fun x16=>
bnd (rec_l12Args [x14,x15,x16] a0.args) fun x17=>
(some (gB.mk x17.1 x17.2))) (
(cnd (a0.kind==6) (
lt_ (kV [110,101,119]) fun x19=>
lt_ (kV a0.name) fun x20=>
bnd (rec_l12Args [x19,x20] a0.args) fun x21=>
(some (gB.mk x21.1 x21.2))) (
(cnd (a0.kind==8) (
lt_ (kV [108,101,116]) fun x23=>
lt_ (kV a0.name) fun x24=>
bnd (rec_l12Args [x23,x24] a0.args) fun x25=>
(some (gB.mk x25.1 x25.2))) (
(cnd (a0.kind==9) (
lt_ (kV [105,102]) fun x27=>
bnd (rec_l12Args [x27] a0.args) fun x28=>
(some (gB.mk x28.1 x28.2))) (
(cnd (a0.kind==10) (
lt_ (kV a0.name) fun x30=>
bnd (rec_l12Args [x30] a0.args) fun x31=>
(some (gB.mk x31.1 x31.2))) (
(cnd (a0.kind==11) (
lt_ (kV [112,97,99,107]) fun x33=>
lt_ (kV a0.trait) fun x34=>
bnd (rec_l12Args [x33,x34] a0.args) fun x35=>
(some (gB.mk x35.1 x35.2))) (
(cnd (a0.kind==12) (
lt_ (kV [116,104,101]) fun x37=>
bnd (gIw 5000 a0.type_) fun x38=>
bnd (rec_l12Args [x37,x38] a0.args) fun x39=>
(some (gB.mk x39.1 x39.2))) (
lt_ (kV [99,97,115,101]) fun x40=>
bnd (rec_l12Args [x40] a0.args) fun x41=>
gF8 rec_l12Sx x41 a0.arms x41.2))))))))))))))))))))))
theorem hDc{rec_l12Args:(List gB)→(List jM)→Option (List UInt8 × List gB)}{rec_l12Sx:jM→Option (gB)}(hrec_l12Args:∀(x0:List gB) (x1:List jM) (w0:Nat) {r:List UInt8 × List gB},rec_l12Args x0 x1=some r→Go.Eng.Spec Tryz.prog 166 [.sl 0 w0,.L 9 (kP x1)] [.arr 107 2 w0 (gM x0)] (fun sv Lo=>sv=.ag [.S r.1,.sl 0 (w0+1)]∧Lo=[.arr 107 2 (w0+1) (gM r.2)]))(hrec_l12Sx:∀(x0:jM) {r:gB},rec_l12Sx x0=some r→jB Tryz.prog 146 [.d (yR x0)] [mF r])(a0:jM){r:gB}(h:gR7 rec_l12Args rec_l12Sx a0=some r):jB Tryz.prog 146 [.d (yR a0)] [mF r]:=by
 obtain⟨a0_0,a0_1,a0_2,a0_3,⟨a0_4_0,a0_4_1,a0_4_2⟩,a0_5,a0_6⟩:=a0
 unfold gR7 at h
 refine SpI Tryz.func146 fun A _=>?_
 refine goL ?_
 refine jE ?_
 refine goC h ?_ ?_<;>intro c1 h
 ·refine goL ?_
  obtain⟨g2,h⟩:=mZ h
  refine qP (gF (gH6 a0_3 g2)) ?_
  obtain⟨⟨x3_0,x3_1⟩,hx3,h⟩:=qR h
  have sx3:=mG (Lib.itoa a0_3)
  rw [hx3] at sx3
  refine qP (gF (sx3)) ?_
  exact goR h
 ·refine goC h ?_ ?_<;>intro c4 h
  ·refine goL ?_
   refine gM3 (us:=gZ [[102,97,108,115,101],[116,114,117,101]]) ?_
   refine goL ?_
   obtain⟨x5,hx5,h⟩:=gK h
   obtain⟨hx50,hx5⟩:=gD6 hx5
   refine gA6 (hG6 hx50 (List.getElem?_eq_some_iff.1 hx5).1) ?_
   refine gA6 (hOq hx5) ?_
   obtain⟨⟨x6_0,x6_1⟩,hx6,h⟩:=qR h
   have sx6:=mG x5
   rw [hx6] at sx6
   refine qP (gF (sx6)) ?_
   exact goR h
  ·refine goC h ?_ ?_<;>intro c7 h
   ·refine goL ?_
    obtain⟨⟨x8_0,x8_1⟩,hx8,h⟩:=qR h
    have sx8:=mG a0_2
    rw [hx8] at sx8
    refine qP (gF (sx8)) ?_
    exact goR h
   ·refine goC h ?_ ?_<;>intro c9 h
    ·refine jL (P:=Tryz.prog) Mix.h [(0,true),(1,true),(2,true),(3,true),(5,true),(6,true),(4,false),(7,false),(8,false)] (by kernel_rfl) ?_
     obtain⟨⟨x10_0,x10_1⟩,hx10,h⟩:=qR h
     have sx10:=mG [99,97,108,108]
     rw [hx10] at sx10
     refine jC rfl (gF (sx10)) ?_
     refine goY ?_
     obtain⟨⟨x11_0,x11_1⟩,hx11,h⟩:=qR h
     have sx11:=mG a0_2
     rw [hx11] at sx11
     refine jC rfl (gF (sx11)) ?_
     refine goY ?_
     refine pY (T:=105) (us:=gM [(gB.mk x10_0 x10_1),(gB.mk x11_0 x11_1)]) ?_
     obtain⟨⟨x12_0,x12_1⟩,hx12,h⟩:=gK h
     refine gBy (sv:=.ag [.S x12_0,.sl 2 (0+1)]) (L':=[.box [.I a0_0,.S a0_1,.S a0_2,.I a0_3,.I a0_4_0,.S a0_4_1,.L 3 (gJ a0_4_2),.L 9 (kP a0_5),.L 11 (qD a0_6)],.box [.S [],.nilsl],.arr 107 2 (0+1) (gM x12_1)]) [2] (hrec_l12Args [(gB.mk x10_0 x10_1),(gB.mk x11_0 x11_1)] a0_5 0 hx12) ?_
     refine goY ?_
     refine kS ?_
     refine goL ?_
     refine kK 2 rfl rfl ?_
     refine jN ?_
     cases h
     exact qK
    ·refine goC h ?_ ?_<;>intro c13 h
     ·refine jL (P:=Tryz.prog) Mix.h [(0,true),(1,true),(2,true),(3,true),(4,true),(5,true),(6,true),(8,true),(9,true),(7,false),(10,false),(11,false)] (by kernel_rfl) ?_
      obtain⟨⟨x14_0,x14_1⟩,hx14,h⟩:=qR h
      have sx14:=mG [109,101,116,104,111,100]
      rw [hx14] at sx14
      refine jC rfl (gF (sx14)) ?_
      refine goY ?_
      obtain⟨⟨x15_0,x15_1⟩,hx15,h⟩:=qR h
      have sx15:=mG a0_1
      rw [hx15] at sx15
      refine jC rfl (gF (sx15)) ?_
      refine goY ?_
      obtain⟨⟨x16_0,x16_1⟩,hx16,h⟩:=qR h
      have sx16:=mG a0_2
      rw [hx16] at sx16
      refine jC rfl (gF (sx16)) ?_
      refine goY ?_
      refine pY (T:=105) (us:=gM [(gB.mk x14_0 x14_1),(gB.mk x15_0 x15_1),(gB.mk x16_0 x16_1)]) ?_
      obtain⟨⟨x17_0,x17_1⟩,hx17,h⟩:=gK h
      refine gBy (sv:=.ag [.S x17_0,.sl 2 (0+1)]) (L':=[.box [.I a0_0,.S a0_1,.S a0_2,.I a0_3,.I a0_4_0,.S a0_4_1,.L 3 (gJ a0_4_2),.L 9 (kP a0_5),.L 11 (qD a0_6)],.box [.S [],.nilsl],.arr 107 2 (0+1) (gM x17_1)]) [2] (hrec_l12Args [(gB.mk x14_0 x14_1),(gB.mk x15_0 x15_1),(gB.mk x16_0 x16_1)] a0_5 0 hx17) ?_
      refine goY ?_
      refine kS ?_
      refine goL ?_
      refine kK 2 rfl rfl ?_
      refine jN ?_
      cases h
      exact qK
     ·refine goC h ?_ ?_<;>intro c18 h
      ·refine jL (P:=Tryz.prog) Mix.h [(0,true),(1,true),(2,true),(3,true),(5,true),(6,true),(4,false),(7,false),(8,false)] (by kernel_rfl) ?_
       obtain⟨⟨x19_0,x19_1⟩,hx19,h⟩:=qR h
       have sx19:=mG [110,101,119]
       rw [hx19] at sx19
       refine jC rfl (gF (sx19)) ?_
       refine goY ?_
       obtain⟨⟨x20_0,x20_1⟩,hx20,h⟩:=qR h
       have sx20:=mG a0_2
       rw [hx20] at sx20
       refine jC rfl (gF (sx20)) ?_
       refine goY ?_
       refine pY (T:=105) (us:=gM [(gB.mk x19_0 x19_1),(gB.mk x20_0 x20_1)]) ?_
       obtain⟨⟨x21_0,x21_1⟩,hx21,h⟩:=gK h
       refine gBy (sv:=.ag [.S x21_0,.sl 2 (0+1)]) (L':=[.box [.I a0_0,.S a0_1,.S a0_2,.I a0_3,.I a0_4_0,.S a0_4_1,.L 3 (gJ a0_4_2),.L 9 (kP a0_5),.L 11 (qD a0_6)],.box [.S [],.nilsl],.arr 107 2 (0+1) (gM x21_1)]) [2] (hrec_l12Args [(gB.mk x19_0 x19_1),(gB.mk x20_0 x20_1)] a0_5 0 hx21) ?_
       refine goY ?_
       refine kS ?_
       refine goL ?_
       refine kK 2 rfl rfl ?_
       refine jN ?_
       cases h
       exact qK
      ·refine goC h ?_ ?_<;>intro c22 h
       ·refine jL (P:=Tryz.prog) Mix.h [(0,true),(1,true),(2,true),(3,true),(5,true),(6,true),(4,false),(7,false),(8,false)] (by kernel_rfl) ?_
        obtain⟨⟨x23_0,x23_1⟩,hx23,h⟩:=qR h
        have sx23:=mG [108,101,116]
        rw [hx23] at sx23
        refine jC rfl (gF (sx23)) ?_
        refine goY ?_
        obtain⟨⟨x24_0,x24_1⟩,hx24,h⟩:=qR h
        have sx24:=mG a0_2
        rw [hx24] at sx24
        refine jC rfl (gF (sx24)) ?_
        refine goY ?_
        refine pY (T:=105) (us:=gM [(gB.mk x23_0 x23_1),(gB.mk x24_0 x24_1)]) ?_
        obtain⟨⟨x25_0,x25_1⟩,hx25,h⟩:=gK h
        refine gBy (sv:=.ag [.S x25_0,.sl 2 (0+1)]) (L':=[.box [.I a0_0,.S a0_1,.S a0_2,.I a0_3,.I a0_4_0,.S a0_4_1,.L 3 (gJ a0_4_2),.L 9 (kP a0_5),.L 11 (qD a0_6)],.box [.S [],.nilsl],.arr 107 2 (0+1) (gM x25_1)]) [2] (hrec_l12Args [(gB.mk x23_0 x23_1),(gB.mk x24_0 x24_1)] a0_5 0 hx25) ?_
        refine goY ?_
        refine kS ?_
        refine goL ?_
        refine kK 2 rfl rfl ?_
        refine jN ?_
        cases h
        exact qK
       ·refine goC h ?_ ?_<;>intro c26 h
        ·refine jL (P:=Tryz.prog) Mix.h [(0,true),(2,true),(3,true),(1,false),(4,false),(5,false)] (by kernel_rfl) ?_
         obtain⟨⟨x27_0,x27_1⟩,hx27,h⟩:=qR h
         have sx27:=mG [105,102]
         rw [hx27] at sx27
         refine jC rfl (gF (sx27)) ?_
         refine goY ?_
         refine pY (T:=105) (us:=gM [(gB.mk x27_0 x27_1)]) ?_
         obtain⟨⟨x28_0,x28_1⟩,hx28,h⟩:=gK h
         refine gBy (sv:=.ag [.S x28_0,.sl 2 (0+1)]) (L':=[.box [.I a0_0,.S a0_1,.S a0_2,.I a0_3,.I a0_4_0,.S a0_4_1,.L 3 (gJ a0_4_2),.L 9 (kP a0_5),.L 11 (qD a0_6)],.box [.S [],.nilsl],.arr 107 2 (0+1) (gM x28_1)]) [2] (hrec_l12Args [(gB.mk x27_0 x27_1)] a0_5 0 hx28) ?_
         refine goY ?_
         refine kS ?_
         refine goL ?_
         refine kK 2 rfl rfl ?_
         refine jN ?_
         cases h
         exact qK
        ·refine goC h ?_ ?_<;>intro c29 h
         ·refine jL (P:=Tryz.prog) Mix.h [(0,true),(1,true),(2,true),(4,true),(5,true),(3,false),(6,false),(7,false)] (by kernel_rfl) ?_
          refine goY ?_
          obtain⟨⟨x30_0,x30_1⟩,hx30,h⟩:=qR h
          have sx30:=mG a0_2
          rw [hx30] at sx30
          refine jC rfl (gF (sx30)) ?_
          refine goY ?_
          refine pY (T:=105) (us:=gM [(gB.mk x30_0 x30_1)]) ?_
          obtain⟨⟨x31_0,x31_1⟩,hx31,h⟩:=gK h
          refine gBy (sv:=.ag [.S x31_0,.sl 2 (0+1)]) (L':=[.box [.I a0_0,.S a0_1,.S a0_2,.I a0_3,.I a0_4_0,.S a0_4_1,.L 3 (gJ a0_4_2),.L 9 (kP a0_5),.L 11 (qD a0_6)],.box [.S [],.nilsl],.arr 107 2 (0+1) (gM x31_1)]) [2] (hrec_l12Args [(gB.mk x30_0 x30_1)] a0_5 0 hx31) ?_
          refine goY ?_
          refine kS ?_
          refine goL ?_
          refine kK 2 rfl rfl ?_
          refine jN ?_
          cases h
          exact qK
         ·refine goC h ?_ ?_<;>intro c32 h
          ·refine jL (P:=Tryz.prog) Mix.h [(0,true),(1,true),(2,true),(3,true),(5,true),(6,true),(4,false),(7,false),(8,false)] (by kernel_rfl) ?_
           obtain⟨⟨x33_0,x33_1⟩,hx33,h⟩:=qR h
           have sx33:=mG [112,97,99,107]
           rw [hx33] at sx33
           refine jC rfl (gF (sx33)) ?_
           refine goY ?_
           obtain⟨⟨x34_0,x34_1⟩,hx34,h⟩:=qR h
           have sx34:=mG a0_1
           rw [hx34] at sx34
           refine jC rfl (gF (sx34)) ?_
           refine goY ?_
           refine pY (T:=105) (us:=gM [(gB.mk x33_0 x33_1),(gB.mk x34_0 x34_1)]) ?_
           obtain⟨⟨x35_0,x35_1⟩,hx35,h⟩:=gK h
           refine gBy (sv:=.ag [.S x35_0,.sl 2 (0+1)]) (L':=[.box [.I a0_0,.S a0_1,.S a0_2,.I a0_3,.I a0_4_0,.S a0_4_1,.L 3 (gJ a0_4_2),.L 9 (kP a0_5),.L 11 (qD a0_6)],.box [.S [],.nilsl],.arr 107 2 (0+1) (gM x35_1)]) [2] (hrec_l12Args [(gB.mk x33_0 x33_1),(gB.mk x34_0 x34_1)] a0_5 0 hx35) ?_
           refine goY ?_
           refine kS ?_
           refine goL ?_
           refine kK 2 rfl rfl ?_
           refine jN ?_
           cases h
           exact qK
          ·refine goC h ?_ ?_<;>intro c36 h
           ·refine jL (P:=Tryz.prog) Mix.h [(0,true),(1,true),(2,true),(3,true),(5,true),(6,true),(4,false),(7,false),(8,false)] (by kernel_rfl) ?_
            obtain⟨⟨x37_0,x37_1⟩,hx37,h⟩:=qR h
            have sx37:=mG [116,104,101]
            rw [hx37] at sx37
            refine jC rfl (gF (sx37)) ?_
            refine goY ?_
            obtain⟨⟨x38_0,x38_1⟩,hx38,h⟩:=gK h
            refine jC rfl (gF (gHd 5000 (gD.mk a0_4_0 a0_4_1 a0_4_2) hx38)) ?_
            refine goY ?_
            refine pY (T:=105) (us:=gM [(gB.mk x37_0 x37_1),(gB.mk x38_0 x38_1)]) ?_
            obtain⟨⟨x39_0,x39_1⟩,hx39,h⟩:=gK h
            refine gBy (sv:=.ag [.S x39_0,.sl 2 (0+1)]) (L':=[.box [.I a0_0,.S a0_1,.S a0_2,.I a0_3,.I a0_4_0,.S a0_4_1,.L 3 (gJ a0_4_2),.L 9 (kP a0_5),.L 11 (qD a0_6)],.box [.S [],.nilsl],.arr 107 2 (0+1) (gM x39_1)]) [2] (hrec_l12Args [(gB.mk x37_0 x37_1),(gB.mk x38_0 x38_1)] a0_5 0 hx39) ?_
            refine goY ?_
            refine kS ?_
            refine goL ?_
            refine kK 2 rfl rfl ?_
            refine jN ?_
            cases h
            exact qK
           ·refine noS ?_
            obtain⟨⟨x40_0,x40_1⟩,hx40,h⟩:=qR h
            have sx40:=mG [99,97,115,101]
            rw [hx40] at sx40
            obtain⟨⟨x41_0,x41_1⟩,hx41,h⟩:=gK h
            refine uZ (P:=Tryz.prog) Mix.h (.q 0 (.q 2 (.q 3 (.h 1 (.h 4 (.h 5 (.h 6 .nil .nil) .nil) (.h 5 (.h 4 (.h 6 .nil .nil) .nil) .nil)) (.h 5 (.h 1 (.h 4 (.h 6 .nil .nil) .nil) .nil) .nil))))) ⟨[(1,.ptr 0 0),(2,.ptr 1 0),(3,.ptr 3 0)],[.box [.I a0_0,.S a0_1,.S a0_2,.I a0_3,.I a0_4_0,.S a0_4_1,.L 3 (gJ a0_4_2),.L 9 (kP a0_5),.L 11 (qD a0_6)],.box [.S [],.nilsl],.arr 107 2 (0+1) (gM x41_1),.box [.S x41_0,.sl 2 (0+1)]],Tryz.f146.ntmps⟩ (by kernel_rfl) ?_ ?_
            ·refine zW (jC rfl (gF (sx40)) jQ) ?_
             refine goT ?_
             refine wQ (pY (T:=105) (us:=gM [(gB.mk x40_0 x40_1)]) jQ) ?_ ?_
             ·refine wQ (gBy (sv:=.ag [.S x41_0,.sl 2 (0+1)]) (L':=[.box [.I a0_0,.S a0_1,.S a0_2,.I a0_3,.I a0_4_0,.S a0_4_1,.L 3 (gJ a0_4_2),.L 9 (kP a0_5),.L 11 (qD a0_6)],.box [.S [],.nilsl],.arr 107 2 (0+1) (gM x41_1)]) [2] (hrec_l12Args [(gB.mk x40_0 x40_1)] a0_5 0 hx41) jQ) ?_ ?_
              ·refine goT ?_
               refine jW ?_
               exact vG 0 [0,1,2,3]
              refine goT ?_
              refine jO (gBy (sv:=.ag [.S x41_0,.sl 2 (0+1)]) (L':=[.box [.I a0_0,.S a0_1,.S a0_2,.I a0_3,.I a0_4_0,.S a0_4_1,.L 3 (gJ a0_4_2),.L 9 (kP a0_5),.L 11 (qD a0_6)],.box [.S [],.nilsl],.arr 107 2 (0+1) (gM x41_1),.box [.S [],.nilsl]]) [2] (hrec_l12Args [(gB.mk x40_0 x40_1)] a0_5 0 hx41) jQ) ?_
              refine goT ?_
              refine jW ?_
              exact vG 0 [0,1,2,3]
             refine goT ?_
             refine jO (pY (T:=105) (us:=gM [(gB.mk x40_0 x40_1)]) jQ) ?_
             refine jO (gBy (sv:=.ag [.S x41_0,.sl 3 (0+1)]) (L':=[.box [.I a0_0,.S a0_1,.S a0_2,.I a0_3,.I a0_4_0,.S a0_4_1,.L 3 (gJ a0_4_2),.L 9 (kP a0_5),.L 11 (qD a0_6)],.box [.S [],.nilsl],.box [.S [],.nilsl],.arr 107 2 (0+1) (gM x41_1)]) [3] (hrec_l12Args [(gB.mk x40_0 x40_1)] a0_5 0 hx41) jQ) ?_
             refine goT ?_
             refine jW ?_
             exact vG 0 [0,1,3,2]
            refine goL ?_
            refine noB ?_
            refine vN 0 8 (fun z45=>?_)
            refine kR (fun(y44:Nat) (y42:List gB) (v43:Nat)=>⟨[(1,.ptr 0 0),(2,.ptr 1 0),(3,.ptr 3 0),(4,.N y44)],[.box [.I a0_0,.S a0_1,.S a0_2,.I a0_3,.I a0_4_0,.S a0_4_1,.L 3 (gJ a0_4_2),.L 9 (kP a0_5),.L 11 (qD a0_6)],.box [.S [],.nilsl],.arr 107 2 v43 (gM y42),.box [.S x41_0,.sl 2 v43]],Tryz.f146.ntmps⟩) (fun y44 y42 v43=>gF8 rec_l12Sx (x41_0,x41_1) (a0_6.drop y44) y42=some r) (fun y44 y42 v43=>a0_6.length - y44) 0 x41_1 (0+1) eJ h ?_
            rintro y44 y42 v43 h
            refine goL ?_
            refine mO (fun c46=>?_) (fun c46=>?_)
            ·have hky442:=wE c46
             obtain⟨x47,hx47,hdx47⟩:=drop_at hky442
             rw [hdx47,gF8.eq_2] at h
             obtain⟨x47_0,x47_1,⟨x47_2_0,x47_2_1,x47_2_2,x47_2_3,⟨x47_2_4_0,x47_2_4_1,x47_2_4_2⟩,x47_2_5,x47_2_6⟩⟩:=x47
             refine noS ?_
             refine kI (jE ?_)
             refine goL ?_
             refine qP (jJ y44 (gXg hx47)) ?_
             refine gHk ?_
             refine jL (P:=Tryz.prog) Mix.h [(0,true),(1,true),(2,true),(4,true),(5,true),(6,true),(3,false),(7,false),(8,true)] (by kernel_rfl) ?_
             refine goY ?_
             obtain⟨⟨x48_0,x48_1⟩,hx48,h⟩:=qR h
             have sx48:=mG x47_0
             rw [hx48] at sx48
             refine jC rfl (gF (sx48)) ?_
             refine goY ?_
             obtain⟨x49,hx49,h⟩:=gK h
             refine jC rfl (gF (gQl x47_1 hx49)) ?_
             refine pY (T:=105) (us:=gM [(gB.mk x48_0 x48_1)]) ?_
             obtain⟨g50,h⟩:=mZ h
             refine pV (T:=105) g50 ?_
             refine goY ?_
             refine kS ?_
             refine gHk ?_
             refine uX (P:=Tryz.prog) Mix.h [(0,true),(1,true),(2,true),(3,true),(4,true),(5,true),(6,false),(7,false),(8,true),(9,false),(10,false),(11,true),(12,false)] (by kernel_rfl) ?_
             refine goY ?_
             obtain⟨⟨x51_0,x51_1⟩,hx51,h⟩:=gK h
             refine jC rfl (gF (hrec_l12Sx (jM.mk x47_2_0 x47_2_1 x47_2_2 x47_2_3 (gD.mk x47_2_4_0 x47_2_4_1 x47_2_4_2) x47_2_5 x47_2_6) hx51)) ?_
             refine pY (T:=105) (us:=gM [(gB.mk x51_0 x51_1)]) ?_
             obtain⟨g52,h⟩:=mZ h
             refine pV (T:=105) g52 ?_
             refine goY ?_
             refine zO 5 rfl rfl ?_
             refine pY (T:=105) (us:=gM [(gB.mk [] (([(gB.mk x48_0 x48_1)]++x49)++[(gB.mk x51_0 x51_1)]))]) ?_
             obtain⟨g53,h⟩:=mZ h
             refine pV (T:=105) g53 ?_
             refine goY ?_
             refine kS ?_
             refine goL ?_
             refine jI (jS y44 (by omega)) ?_
             exact⟨(y44+1),(y42++[(gB.mk [] (([(gB.mk x48_0 x48_1)]++x49)++[(gB.mk x51_0 x51_1)]))]),(v43+1),h,by omega,eJ⟩
            ·have hky442:=wF c46
             rw [jF hky442,gF8.eq_1] at h
             refine goX ?_
             refine kK 2 rfl rfl ?_
             refine jN ?_
             cases h
             exact qK
mutual
def gL5:Nat→(List gB)→(List jM)→Option (List UInt8 × List gB)
 | 0,_,_=>none
 | n+1,x0,x1=>gL4 (gL5 n) (gI4 n) x0 x1
def gI4:Nat→jM→Option (gB)
 | 0,_=>none
 | n+1,x0=>gR7 (gL5 n) (gI4 n) x0
end
theorem gU3:∀(n:Nat),(∀(x0:List gB) (x1:List jM) (w0:Nat) {r:List UInt8 × List gB},gL5 n x0 x1=some r→Go.Eng.Spec Tryz.prog 166 [.sl 0 w0,.L 9 (kP x1)] [.arr 107 2 w0 (gM x0)] (fun sv Lo=>sv=.ag [.S r.1,.sl 0 (w0+1)]∧Lo=[.arr 107 2 (w0+1) (gM r.2)]))∧(∀(x0:jM) {r:gB},gI4 n x0=some r→jB Tryz.prog 146 [.d (yR x0)] [mF r]):=by
 intro n
 induction n with
 | zero=>exact⟨(by intro x0 x1 w0 r h;cases h),(by intro x0 r h;cases h)⟩
 | succ n ih=>
   obtain⟨ih0,ih1⟩:=ih
   refine⟨(fun x0 x1 w0 r h=>gWa ih0 ih1 x0 x1 w0 h),(fun x0 r h=>hDc ih0 ih1 x0 h)⟩
theorem gR8:∀(n:Nat) (x0:jM) {r:gB},gI4 n x0=some r→jB Tryz.prog 146 [.d (yR x0)] [mF r]:=fun n=>(gU3 n).2
def gA9:List gB→(List jD)→Option (List jD)
 | [],y1=>(some y1)
 | x6::xs,y1=>bnd (pX x6 0) fun x7=>
bnd (pX x6 1) fun x8=>
bnd (gIv 5000 x8) fun x9=>
gd (y1.length+[(jD.mk x7.atom x9)].length≤4294967296) (
gA9 xs (y1++[(jD.mk x7.atom x9)]))
def gGq(a0:gB):Option (List jD):=
gA9 a0.list []
theorem gL6(a0:gB){r:List jD}(h:gGq a0=some r):jB Tryz.prog 121 [.d (mF a0)] [.sl 4 (jT r)]:=by
 obtain⟨a0_0,a0_1⟩:=a0
 unfold gGq at h
 refine SpI Tryz.func121 fun A _=>?_
 refine goL ?_
 refine zN ?_
 refine goL ?_
 refine noB ?_
 refine vN 0 1 (fun z4=>?_)
 refine kR (fun(y3:Nat) (y1:List jD) (v2:Nat)=>⟨[(1,.ptr 0 0),(3,.sl 1 v2),(4,.N y3)],[.box [.S a0_0,.L 2 (gM a0_1)],.arr 66 4 v2 (jT y1)],Tryz.f121.ntmps⟩) (fun y3 y1 v2=>gA9 (a0_1.drop y3) y1=some r) (fun y3 y1 v2=>a0_1.length - y3) 0 [] 0 eJ h ?_
 rintro y3 y1 v2 h
 refine goL ?_
 refine mO (fun c5=>?_) (fun c5=>?_)
 ·have hky32:=wE c5
  obtain⟨x6,hx6,hdx6⟩:=drop_at hky32
  rw [hdx6,gA9.eq_2] at h
  obtain⟨x6_0,x6_1⟩:=x6
  refine noS ?_
  refine kI (jE ?_)
  refine uX (P:=Tryz.prog) Mix.h [(0,true),(1,true),(2,true),(3,true),(4,true),(5,true),(6,true),(7,true),(8,true),(9,true),(10,true),(11,true),(12,true),(13,true),(14,true),(15,true),(16,false),(17,false),(18,true)] (by kernel_rfl) ?_
  refine goY ?_
  refine jC rfl (jJ y3 (qO hx6)) ?_
  refine goY ?_
  obtain⟨⟨x7_0,x7_1⟩,hx7,h⟩:=gK h
  refine jC rfl (gF (qH (gB.mk x6_0 x6_1) 0 hx7)) ?_
  refine jC rfl (gFv) ?_
  refine goY ?_
  refine jC rfl (jJ y3 (qO hx6)) ?_
  refine goY ?_
  obtain⟨⟨x8_0,x8_1⟩,hx8,h⟩:=gK h
  refine jC rfl (gF (qH (gB.mk x6_0 x6_1) 1 hx8)) ?_
  obtain⟨⟨x9_0,x9_1,x9_2⟩,hx9,h⟩:=gK h
  refine jC rfl (gF (gK5 5000 (gB.mk x8_0 x8_1) hx9)) ?_
  refine goY ?_
  refine pY (T:=45) (us:=jT [(jD.mk x7_0 (gD.mk x9_0 x9_1 x9_2))]) ?_
  obtain⟨g10,h⟩:=mZ h
  refine pV (T:=45) g10 ?_
  refine goY ?_
  refine kS ?_
  refine goL ?_
  refine jI (jS y3 (by omega)) ?_
  exact⟨(y3+1),(y1++[(jD.mk x7_0 (gD.mk x9_0 x9_1 x9_2))]),(v2+1),h,by omega,eJ⟩
 ·have hky32:=wF c5
  rw [jF hky32,gA9.eq_1] at h
  refine goX ?_
  refine kK 1 rfl rfl ?_
  refine jN ?_
  cases h
  exact qK
def gB3:List jD→(List gB)→Option (gB)
 | [],y1=>(some (gB.mk [] y1))
 | x6::xs,y1=>lt_ (kV x6.trait) fun x7=>
bnd (gIw 5000 x6.type_) fun x8=>
bnd (gF1 [x7,x8]) fun x9=>
gd (y1.length+[x9].length≤4294967296) (
gB3 xs (y1++[x9]))
def gId(a0:List jD):Option (gB):=
gB3 a0 []
theorem gCq(a0:List jD){r:gB}(h:gId a0=some r):jB Tryz.prog 148 [.L 4 (jT a0)] [mF r]:=by
 unfold gId at h
 refine SpI Tryz.func148 fun A _=>?_
 refine goL ?_
 refine gFl (kD TBd.h TZ.h rfl (by repeat constructor)) ?_
 refine noB ?_
 refine yJ 107 2 1 1 rfl rfl (by repeat constructor) (by repeat constructor) (by repeat constructor) (by repeat constructor) ?_
 show V _ _ _ _ _
 refine gFj 0 (fun z4=>?_)
 refine kR (fun(y3:Nat) (y1:List gB) (v2:Nat)=>⟨[(0,.L 4 (jT a0)),(2,.ptr 0 0),(3,.ptr 1 0),(4,.N y3)],[.box [.S [],.nilsl],.box [.S [],.sl 2 v2],.arr 107 2 v2 (gM y1)],Tryz.f148.ntmps⟩) (fun y3 y1 v2=>gB3 (a0.drop y3) y1=some r) (fun y3 y1 v2=>a0.length - y3) 0 [] 0 eJ h ?_
 rintro y3 y1 v2 h
 refine goL ?_
 refine mO (fun c5=>?_) (fun c5=>?_)
 ·have hky32:=wE c5
  obtain⟨x6,hx6,hdx6⟩:=drop_at hky32
  rw [hdx6,gB3.eq_2] at h
  obtain⟨x6_0,⟨x6_1_0,x6_1_1,x6_1_2⟩⟩:=x6
  refine noS ?_
  refine kI (jE ?_)
  refine uX (P:=Tryz.prog) Mix.h [(0,true),(1,true),(2,true),(3,true),(4,true),(5,true),(6,true),(8,true),(9,true),(10,true),(11,true),(12,true),(7,false),(13,false),(14,false),(15,false),(16,false),(17,false),(18,true),(19,false)] (by kernel_rfl) ?_
  refine goY ?_
  refine jC rfl (jJ y3 (gHf hx6)) ?_
  refine goY ?_
  refine jC rfl (jJ y3 (gHf hx6)) ?_
  refine goY ?_
  obtain⟨⟨x7_0,x7_1⟩,hx7,h⟩:=qR h
  have sx7:=mG x6_0
  rw [hx7] at sx7
  refine pG (sx7) ?_
  obtain⟨⟨x8_0,x8_1⟩,hx8,h⟩:=gK h
  refine pG (gHd 5000 (gD.mk x6_1_0 x6_1_1 x6_1_2) hx8) ?_
  refine pY (T:=105) (us:=gM [(gB.mk x7_0 x7_1),(gB.mk x8_0 x8_1)]) ?_
  refine zO 3 rfl rfl ?_
  obtain⟨⟨x9_0,x9_1⟩,hx9,h⟩:=gK h
  refine pG (gIn [(gB.mk x7_0 x7_1),(gB.mk x8_0 x8_1)] hx9) ?_
  refine pY (T:=105) (us:=gM [(gB.mk x9_0 x9_1)]) ?_
  obtain⟨g10,h⟩:=mZ h
  refine pV (T:=105) g10 ?_
  refine goY ?_
  refine kS ?_
  refine goL ?_
  refine jI (jS y3 (by omega)) ?_
  exact⟨(y3+1),(y1++[(gB.mk x9_0 x9_1)]),(v2+1),h,by omega,eJ⟩
 ·have hky32:=wF c5
  rw [jF hky32,gB3.eq_1] at h
  refine goX ?_
  refine kK 2 rfl rfl ?_
  refine jN ?_
  cases h
  exact qK
def gC4(c:jA):Option (List UInt8 × jA):=
bnd (gHy c) fun x1=>
bnd (gCm x1.2 5) fun x2=>
(cnd x2.1 (
(some (x1.1,x2.2))) (
gd (x1.1.length+([10]:List UInt8).length≤4294967296) (
bnd (gJy x2.2) fun x5=>
gd ((x1.1++([10]:List UInt8)).length+x5.1.length≤4294967296) (
(some (((x1.1++([10]:List UInt8))++x5.1),x5.2))))))
theorem gNu(c:jA){r:List UInt8 × jA}(h:gC4 c=some r):Go.Eng.Spec Tryz.prog 26 [.ptr 0 0] [.box [.L 1 (kQ c.b),.I c.i,.I c.h]] (fun sv Lo=>sv=.S r.1∧Lo=[.box [.L 1 (kQ r.2.b),.I r.2.i,.I r.2.h]]):=by
 obtain⟨c_0,c_1,c_2⟩:=c
 unfold gC4 at h
 refine mP 1 Tryz.func26 rfl (by kernel_rfl) rfl rfl fun A _=>?_
 refine goL ?_
 obtain⟨⟨x1_0,⟨x1_1_0,x1_1_1,x1_1_2⟩⟩,hx1,h⟩:=gK h
 refine zI 0 (gWo (jA.mk c_0 c_1 c_2) hx1) ?_
 refine goL ?_
 obtain⟨⟨x2_0,⟨x2_1_0,x2_1_1,x2_1_2⟩⟩,hx2,h⟩:=gK h
 refine zI 0 (gG1 (jA.mk x1_1_0 x1_1_1 x1_1_2) 5 hx2) ?_
 refine goC h ?_ ?_<;>intro c3 h
 ·refine goL ?_
  refine jN ?_
  obtain rfl:=Option.some.inj h
  exact gFk [.S x1_0] [.box [.L 1 (kQ x2_1_0),.I x2_1_1,.I x2_1_2]] ⟨rfl,rfl⟩
 ·refine goS ?_
  obtain⟨g4,h⟩:=mZ h
  refine jI (vB g4) ?_
  obtain⟨⟨x5_0,⟨x5_1_0,x5_1_1,x5_1_2⟩⟩,hx5,h⟩:=gK h
  refine zI 0 (gZ4 (jA.mk x2_1_0 x2_1_1 x2_1_2) hx5) ?_
  obtain⟨g6,h⟩:=mZ h
  refine jI (vB g6) ?_
  refine jN ?_
  obtain rfl:=Option.some.inj h
  exact gFk [.d (.s ((x1_0++([10]:List UInt8))++x5_0))] [.box [.L 1 (kQ x5_1_0),.I x5_1_1,.I x5_1_2]] ⟨rfl,rfl⟩
end Go.Proofs.YtfaplndgbgoaaaaGreatDoor
set_option maxHeartbeats 4000000
set_option linter.unusedVariables false
set_option linter.unusedSimpArgs false
set_option linter.unusedSectionVars false
namespace Go.Proofs.YtfaplndgbgoaaaaGreatDoor
open Go Go.Eng
attribute [local irreducible] V VO VQ VY Quiet QR jB kX Rng uJ uY qW
def gFn(a0:gH)(a1:List jD)(a2:gD):Option (gD × Int):=
bnd (wH 100000 a0 a1 a2 12) fun x1=>
(some (x1.1,x1.2))
theorem gQe(a0:gH)(a1:List jD)(a2:gD){r:gD × Int}(h:gFn a0 a1 a2=some r):jB Tryz.prog 75 [.d (kT a0),.L 4 (jT a1),.d (jP a2)] [jP r.1,.i .i64 r.2]:=by
 obtain⟨a0_0⟩:=a0
 obtain⟨a2_0,a2_1,a2_2⟩:=a2
 unfold gFn at h
 refine SpI Tryz.func75 fun A _=>?_
 refine goL ?_
 obtain⟨⟨⟨x1_0_0,x1_0_1,x1_0_2⟩,x1_1⟩,hx1,h⟩:=gK h
 refine qP (gF (gR6 100000 (gH.mk a0_0) a1 (gD.mk a2_0 a2_1 a2_2) 12 hx1)) ?_
 exact goR h
def gDc(a0:jM)(a1:List (List UInt8)):List (List UInt8)→Option (Bool)
 | []=>bnd (gF4 a0) fun x7=>
(some x7)
 | x5::xs=>(cnd (!(vQ a1 x5)) (
(some false)) (
gDc a0 a1 xs ))
def gHm(a0:jM)(a1:List (List UInt8)):Option (Bool):=
bnd (gD1 a0) fun x1=>
gDc a0 a1 x1
theorem gL7(a0:jM)(a1:List (List UInt8)){r:Bool}(h:gHm a0 a1=some r):jB Tryz.prog 155 [.d (yR a0),.L 1 (gZ a1)] [.b r]:=by
 obtain⟨a0_0,a0_1,a0_2,a0_3,⟨a0_4_0,a0_4_1,a0_4_2⟩,a0_5,a0_6⟩:=a0
 unfold gHm at h
 refine SpI Tryz.func155 fun A _=>?_
 refine goL ?_
 obtain⟨x1,hx1,h⟩:=gK h
 refine jI (gF (gLg (jM.mk a0_0 a0_1 a0_2 a0_3 (gD.mk a0_4_0 a0_4_1 a0_4_2) a0_5 a0_6) hx1)) ?_
 refine noB ?_
 refine gFj 5 (fun z3=>?_)
 refine pJ (fun(y2:Nat)=>⟨[(1,.L 1 (gZ a1)),(2,.ptr 0 0),(5,.L 1 (gZ x1)),(6,.N y2)],[.box [.I a0_0,.S a0_1,.S a0_2,.I a0_3,.I a0_4_0,.S a0_4_1,.L 3 (gJ a0_4_2),.L 9 (kP a0_5),.L 11 (qD a0_6)]],Tryz.f155.ntmps⟩) (fun y2=>gDc (jM.mk a0_0 a0_1 a0_2 a0_3 (gD.mk a0_4_0 a0_4_1 a0_4_2) a0_5 a0_6) a1 (x1.drop y2)  =some r) (fun y2=>x1.length - y2) 0 eJ h ?_
 rintro y2 h
 refine goL ?_
 refine mO (fun c4=>?_) (fun c4=>?_)
 ·have hky22:=wE c4
  obtain⟨x5,hx5,hdx5⟩:=drop_at hky22
  rw [hdx5,gDc.eq_2] at h
  refine noS ?_
  refine kI (jE ?_)
  refine goL ?_
  refine jI (jJ y2 (gOe hx5)) ?_
  refine jI (gF (gDy a1 x5)) ?_
  refine mO (fun c6=>?_) (fun c6=>?_)
  ·replace h:=gX c6 h
   exact goR h
  ·replace h:=gY c6 h
   refine goS ?_
   refine jI (jS y2 (by omega)) ?_
   exact⟨(y2+1),h,by omega,eJ⟩
 ·have hky22:=wF c4
  rw [jF hky22,gDc.eq_1] at h
  refine goX ?_
  obtain⟨x7,hx7,h⟩:=gK h
  refine qP (gF (gNt (jM.mk a0_0 a0_1 a0_2 a0_3 (gD.mk a0_4_0 a0_4_1 a0_4_2) a0_5 a0_6) hx7)) ?_
  exact goR h
def uK(a0:kY):List pO→(List (List UInt8))→Option (Bool)
 | [],y1=>bnd ((cnd (kW a0.name) (bnd (vY a0.vars 3) fun x14=>
(cnd x14 ((cnd (decide ((y1.length:Int) > 0)) (bnd (vY y1 5) fun x17=>
(some x17)) ((some false)))) ((some false)))) ((some false)))) fun b12=>
(some b12)
 | x6::xs,y1=>bnd ((cnd (decide ((x6.fields.length:Int) > 4)) ((some true)) (bnd (gLi x6.fields a0.vars) fun x9=>
(some (!x9))))) fun b7=>
(cnd b7 (
(some false)) (
gd (y1.length+[x6.name].length≤4294967296) (
uK a0 xs (y1++[x6.name]))))
def zX(a0:kY):Option (Bool):=
uK a0 a0.constructors []
theorem gFo(a0:kY){r:Bool}(h:zX a0=some r):jB Tryz.prog 128 [.d (gDo a0)] [.b r]:=by
 obtain⟨a0_0,a0_1,a0_2⟩:=a0
 unfold zX at h
 refine SpI Tryz.func128 fun A _=>?_
 refine goL ?_
 refine gFc ?_
 refine goL ?_
 refine noB ?_
 refine vN 0 2 (fun z4=>?_)
 refine kR (fun(y3:Nat) (y1:List (List UInt8)) (v2:Nat)=>⟨[(1,.ptr 0 0),(3,.sl 1 v2),(4,.N y3)],[.box [.S a0_0,.L 1 (gZ a0_1),.L 2 (mV a0_2)],.own 9 1 v2 (gZ y1)],Tryz.f128.ntmps⟩) (fun y3 y1 v2=>uK (kY.mk a0_0 a0_1 a0_2) (a0_2.drop y3) y1=some r) (fun y3 y1 v2=>a0_2.length - y3) 0 [] 0 eJ h ?_
 rintro y3 y1 v2 h
 refine goL ?_
 refine mO (fun c5=>?_) (fun c5=>?_)
 ·have hky32:=wE c5
  obtain⟨x6,hx6,hdx6⟩:=drop_at hky32
  rw [hdx6,uK.eq_2] at h
  obtain⟨x6_0,x6_1⟩:=x6
  refine noS ?_
  refine kI (jE ?_)
  refine gHk ?_
  obtain⟨b7,hb7,h⟩:=gK h
  refine qZ (P:=Tryz.prog) Mix.h ⟨[(1,.ptr 0 0),(3,.sl 1 v2),(4,.N y3),(32,.B b7)],[.box [.S a0_0,.L 1 (gZ a0_1),.L 2 (mV a0_2)],.own 9 1 v2 (gZ y1)],Tryz.f128.ntmps⟩ (by kernel_rfl) ?_ ?_
  ·refine goL ?_
   refine gDm (jJ y3 (gBu hx6)) ?_
   refine goL ?_
   refine vR 21 (fun c8=>?_) (fun c8=>?_)
   ·replace hb7:=gX c8 hb7
    refine goL ?_
    cases hb7
    exact eJ
   ·replace hb7:=gY c8 hb7
    refine goL ?_
    refine gBe (jJ y3 (gBu hx6)) ?_
    refine goL ?_
    obtain⟨x9,hx9,hb7⟩:=gK hb7
    refine gBe (gF (gTa x6_1 a0_1 hx9)) ?_
    refine goL ?_
    cases hb7
    exact eJ
  refine goC h ?_ ?_<;>intro c10 h
  ·exact goR h
  ·refine goS ?_
   refine jI (jJ y3 (gBu hx6)) ?_
   refine gA7 x6_0 ?_
   obtain⟨g11,h⟩:=mZ h
   refine gGg g11 ?_
   refine goL ?_
   refine jI (jS y3 (by omega)) ?_
   exact⟨(y3+1),(y1++[x6_0]),(v2+1),h,by omega,eJ⟩
 ·have hky32:=wF c5
  rw [jF hky32,uK.eq_1] at h
  refine goX ?_
  refine jI (gF (pK a0_0)) ?_
  obtain⟨b12,hb12,h⟩:=gK h
  refine jU ⟨[(2,.B b12)],[.box [.S a0_0,.L 1 (gZ a0_1),.L 2 (mV a0_2)],.own 9 1 v2 (gZ y1)],Tryz.f128.ntmps⟩ ?_ ?_
  ·refine gN 45 (fun c13=>?_) (fun c13=>?_)
   ·replace hb12:=gX c13 hb12
    refine goL ?_
    refine uD ?_
    obtain⟨x14,hx14,hb12⟩:=gK hb12
    refine jI (gF (yL a0_1 3 hx14)) ?_
    refine gN 50 (fun c15=>?_) (fun c15=>?_)
    ·replace hb12:=gX c15 hb12
     refine goL ?_
     refine gN 55 (fun c16=>?_) (fun c16=>?_)
     ·replace hb12:=gX c16 hb12
      refine goL ?_
      refine uD ?_
      obtain⟨x17,hx17,hb12⟩:=gK hb12
      refine gFl (gSj (yL y1 5 hx17)) ?_
      cases hb12
      exact eJ
     ·replace hb12:=gY c16 hb12
      refine goL ?_
      cases hb12
      exact eJ
    ·replace hb12:=gY c15 hb12
     refine goL ?_
     cases hb12
     exact eJ
   ·replace hb12:=gY c13 hb12
    refine goL ?_
    cases hb12
    exact eJ
  exact goR h
end Go.Proofs.YtfaplndgbgoaaaaGreatDoor
