import Derived.Test.YtfaplndgbgoaaaaGreatEng38
import Derived.Test.YtfaplndgbgoaaaaGreatEng67
import Derived.Test.YtfaplndgbgoaaaaGreatSfi0
import Derived.Test.YtfaplndgbgoaaaaGreatB11
import Derived.Test.YtfaplndgbgoaaaaGreatB2
import Derived.Test.YtfaplndgbgoaaaaGreatB3
import Derived.Test.YtfaplndgbgoaaaaGreatB5
import Derived.Test.YtfaplndgbgoaaaaGreatB9
set_option maxHeartbeats 4000000
set_option linter.unusedVariables false
set_option linter.unusedSimpArgs false
set_option linter.unusedSectionVars false
namespace Go.Proofs.YtfaplndgbgoaaaaGreat
open Go Go.Eng
attribute [local irreducible] V VO VQ VY Quiet QR jB kR Rng uX vB qY
def gJz (a0 : gI) (a1 : List jF) (a2 : jF) : Option (gU × Int) :=
bnd (gC6 a0 a1) fun x1 =>
bnd (zP 5000 a0 x1 a2 12) fun x2 =>
(some (x2.1, x2.2))
theorem gZ4 (a0 : gI) (a1 : List jF) (a2 : jF) {r : gU × Int} (h : gJz a0 a1 a2 = some r) : jB Tryz.prog 98 [.d (kS a0), .L 4 (jV a1), .d (gAi a2)] [mV r.1, .i .i64 r.2] := by
 obtain ⟨a0_0⟩ := a0
 obtain ⟨a2_0, ⟨a2_1_0, a2_1_1, a2_1_2⟩⟩ := a2
 unfold gJz at h
 refine SpI Tryz.func98 fun A _ => ?_
 refine gIx ?_
 refine jL (P := Tryz.prog) Mix.h [(0, true), (1, true), (2, true), (3, true), (4, true), (5, true), (6, true), (7, true), (8, false), (9, true)] (by kernel_rfl) ?_
 refine goY ?_
 obtain ⟨x1, hx1, h⟩ := gK h
 refine jD rfl (gF (gOg (gI.mk a0_0) a1 hx1)) ?_
 refine goY ?_
 obtain ⟨⟨⟨x2_0_0, x2_0_1, ⟨x2_0_2_0, x2_0_2_1⟩, x2_0_3⟩, x2_1⟩, hx2, h⟩ := gK h
 refine jD rfl (gF (gVp 5000 (gI.mk a0_0) x1 (jF.mk a2_0 (gD.mk a2_1_0 a2_1_1 a2_1_2)) 12 hx2)) ?_
 refine goY ?_
 refine kP ?_
 exact goR h
def gBz (a0 : List UInt8) : Option (gB × Bool) :=
bnd (gAa 5000 (uE.mk a0 0 0 0 false)) fun x1 =>
bnd (gLg x1.2) fun x2 =>
bnd ((cnd x2.bad ((some true)) ((cnd (x2.at_ != (a0.length : Int)) ((some true)) (bnd (pW x1.1) fun x6 =>
(some (!x6))))))) fun b3 =>
(cnd b3 (
(some ((gB.mk [] []), false))) (
(some (x1.1, true))))
theorem gPc (a0 : List UInt8) {r : gB × Bool} (h : gBz a0 = some r) : jB Tryz.prog 69 [.S a0] [mD r.1, .b r.2] := by
 unfold gBz at h
 refine SpI Tryz.func69 fun A _ => ?_
 refine goL ?_
 refine gFj (kE TBd.h TZ.h rfl (by repeat constructor)) ?_
 obtain ⟨⟨⟨x1_0_0, x1_0_1⟩, ⟨x1_1_0, x1_1_1, x1_1_2, x1_1_3, x1_1_4⟩⟩, hx1, h⟩ := gK h
 refine zH 1 (hAl 5000 (uE.mk a0 0 0 0 false) hx1) ?_
 refine goL ?_
 obtain ⟨⟨x2_0, x2_1, x2_2, x2_3, x2_4⟩, hx2, h⟩ := gK h
 refine zH 1 (gQf (uE.mk x1_1_0 x1_1_1 x1_1_2 x1_1_3 x1_1_4) hx2) ?_
 refine goL ?_
 obtain ⟨b3, hb3, h⟩ := gK h
 refine jU ⟨[(2, .ptr 0 0), (5, .ptr 2 0), (30, .B b3)], [.box [.S [], .nilsl], .box [.S x2_0, .I x2_1, .I x2_2, .I x2_3, .B x2_4], .box [.S x1_0_0, .L 2 (gM x1_0_1)]], Tryz.f69.ntmps⟩ ?_ ?_
 ·refine gQ 17 (fun c4 => ?_) (fun c4 => ?_)
  ·replace hb3 := gW c4 hb3
   refine goL ?_
   cases hb3
   exact eJ
  ·replace hb3 := gX c4 hb3
   refine goL ?_
   refine gQ 26 (fun c5 => ?_) (fun c5 => ?_)
   ·replace hb3 := gW c5 hb3
    refine goL ?_
    cases hb3
    exact eJ
   ·replace hb3 := gX c5 hb3
    refine goL ?_
    refine uB ?_
    obtain ⟨x6, hx6, hb3⟩ := gK hb3
    refine jH (gF (wC (gB.mk x1_0_0 x1_0_1) hx6)) ?_
    cases hb3
    exact eJ
 refine goC h ?_ ?_<;>intro c7 h
 ·refine goL ?_
  refine gBm (kE TBd.h TZ.h rfl (by repeat constructor)) ?_
  exact goR h
 ·refine goS ?_
  refine jN ?_
  cases h
  exact qH
def gDc (a0 : gD) (a1 : List (List UInt8)) : List (List UInt8) → Option (Bool)
 | [] => bnd (vQ a0) fun x7 =>
(some x7)
 | x5 :: xs => (cnd (!(vN a1 x5)) (
(some false)) (
gDc a0 a1 xs ))
def gB0 (a0 : gD) (a1 : List (List UInt8)) : Option (Bool) :=
bnd (gD2 a0) fun x1 =>
gDc a0 a1 x1
theorem gEv (a0 : gD) (a1 : List (List UInt8)) {r : Bool} (h : gB0 a0 a1 = some r) : jB Tryz.prog 140 [.d (jQ a0), .L 1 (gY a1)] [.b r] := by
 obtain ⟨a0_0, a0_1, a0_2⟩ := a0
 unfold gB0 at h
 refine SpI Tryz.func140 fun A _ => ?_
 refine goL ?_
 obtain ⟨x1, hx1, h⟩ := gK h
 refine jH (gF (gLv (gD.mk a0_0 a0_1 a0_2) hx1)) ?_
 refine noB ?_
 refine gEk 5 (fun z3 => ?_)
 refine mY (fun (y2 : Nat) => ⟨[(1, .L 1 (gY a1)), (2, .ptr 0 0), (5, .L 1 (gY x1)), (6, .N y2)], [.box [.I a0_0, .S a0_1, .L 3 (gJ a0_2)]], Tryz.f140.ntmps⟩) (fun y2 => gDc (gD.mk a0_0 a0_1 a0_2) a1 (x1.drop y2)  = some r) (fun y2 => x1.length - y2) 0 eJ h ?_
 rintro y2 h
 refine goL ?_
 refine mF (fun c4 => ?_) (fun c4 => ?_)
 ·have hky22 := vO c4
  obtain ⟨x5, hx5, hdx5⟩ := drop_at hky22
  rw [hdx5, gDc.eq_2] at h
  refine noS ?_
  refine kD (jC ?_)
  refine goL ?_
  refine jH (jJ y2 (gOl hx5)) ?_
  refine jH (gF (gD1 a1 x5)) ?_
  refine mF (fun c6 => ?_) (fun c6 => ?_)
  ·replace h := gW c6 h
   exact goR h
  ·replace h := gX c6 h
   refine goS ?_
   refine jH (jT y2 (by omega)) ?_
   exact ⟨(y2 + 1), h, by omega, eJ⟩
 ·have hky22 := vP c4
  rw [jE hky22, gDc.eq_1] at h
  refine goX ?_
  obtain ⟨x7, hx7, h⟩ := gK h
  refine qQ (gF (zQ (gD.mk a0_0 a0_1 a0_2) hx7)) ?_
  exact goR h
def gDd (rec_l11Form : jO → Option (Bool)) : List gJq → Option (Bool)
 | [] => (some true)
 | x65 :: xs => bnd ((cnd (!(kV x65.constructor)) ((some true)) ((cnd (!(gH9 x65.vars)) ((some true)) (bnd (vR x65.vars) fun x69 =>
(cnd (!x69) ((some true)) (bnd (rec_l11Form x65.body) fun x71 =>
(some (!x71))))))))) fun b66 =>
(cnd b66 (
(some false)) (
gDd rec_l11Form xs ))
def gDe (rec_l11Form : jO → Option (Bool)) (a0 : jO) : List jO → Option (Bool)
 | [] => gDd rec_l11Form a0.arms
 | x59 :: xs => bnd (rec_l11Form x59) fun x60 =>
(cnd (!x60) (
(some false)) (
gDe rec_l11Form a0 xs ))
def gMj (rec_l11Form : jO → Option (Bool)) (a0 : jO) : Option (Bool) :=
lt_ (gEf a0.kind) fun x1 =>
lt_ ((cnd (!(gFl a0.kind 1 12)) (true) ((cnd (!((kV a0.trait) == x1.1)) (true) ((cnd (!x1.1) ((cnd (!(a0.trait == [])) (true) ((cnd (!x1.2.2.1) ((cnd (a0.n != 0) (true) ((!((decide ((a0.arms.length : Int) > 0)) == x1.2.2.2.2.2))))) ((!((decide ((a0.arms.length : Int) > 0)) == x1.2.2.2.2.2))))))) ((cnd (!x1.2.2.1) ((cnd (a0.n != 0) (true) ((!((decide ((a0.arms.length : Int) > 0)) == x1.2.2.2.2.2))))) ((!((decide ((a0.arms.length : Int) > 0)) == x1.2.2.2.2.2))))))))))) fun b2 =>
(cnd b2 (
(some false)) (
lt_ ((cnd (a0.kind == 10) ((cnd (!(gJ9 a0.name)) (true) ((cnd (a0.kind != 10) ((cnd (!((kV a0.name) == x1.2.1)) (true) ((cnd (!x1.2.1) ((!(a0.name == []))) (false))))) (false))))) ((cnd (a0.kind != 10) ((cnd (!((kV a0.name) == x1.2.1)) (true) ((cnd (!x1.2.1) ((!(a0.name == []))) (false))))) (false))))) fun b12 =>
(cnd b12 (
(some false)) (
bnd ((cnd (decide (x1.2.2.2.2.1 ≥ 0)) ((cnd ((a0.args.length : Int) != x1.2.2.2.2.1) ((some true)) ((cnd (a0.kind == 5) ((cnd ((a0.args.length : Int) == 0) ((some true)) ((cnd x1.2.2.2.1 (bnd (vQ a0.type_) fun x28 =>
(cnd (!x28) ((some true)) ((cnd (!x1.2.2.2.1) ((some (!(yJ a0.type_)))) ((some false)))))) ((cnd (!x1.2.2.2.1) ((some (!(yJ a0.type_)))) ((some false)))))))) ((cnd x1.2.2.2.1 (bnd (vQ a0.type_) fun x33 =>
(cnd (!x33) ((some true)) ((cnd (!x1.2.2.2.1) ((some (!(yJ a0.type_)))) ((some false)))))) ((cnd (!x1.2.2.2.1) ((some (!(yJ a0.type_)))) ((some false)))))))))) ((cnd (a0.kind == 5) ((cnd ((a0.args.length : Int) == 0) ((some true)) ((cnd x1.2.2.2.1 (bnd (vQ a0.type_) fun x40 =>
(cnd (!x40) ((some true)) ((cnd (!x1.2.2.2.1) ((some (!(yJ a0.type_)))) ((some false)))))) ((cnd (!x1.2.2.2.1) ((some (!(yJ a0.type_)))) ((some false)))))))) ((cnd x1.2.2.2.1 (bnd (vQ a0.type_) fun x45 =>
(cnd (!x45) ((some true)) ((cnd (!x1.2.2.2.1) ((some (!(yJ a0.type_)))) ((some false)))))) ((cnd (!x1.2.2.2.1) ((some (!(yJ a0.type_)))) ((some false)))))))))) fun b22 =>
(cnd b22 (
(some false)) (
lt_ ((cnd (a0.kind == 1) ((cnd (!(gFl a0.n (-999999) 999999)) (true) ((cnd (a0.kind == 2) ((!(gFl a0.n 0 1))) (false))))) ((cnd (a0.kind == 2) ((!(gFl a0.n 0 1))) (false))))) fun b50 =>
(cnd b50 (
(some false)) (
gDe rec_l11Form a0 a0.args ))))))))
theorem gWr {rec_l11Form : jO → Option (Bool)} (hrec_l11Form : ∀ (x0 : jO) {r : Bool}, rec_l11Form x0 = some r → jB Tryz.prog 177 [.d (yO x0)] [.b r]) (a0 : jO) {r : Bool} (h : gMj rec_l11Form a0 = some r) : jB Tryz.prog 177 [.d (yO a0)] [.b r] := by
 obtain ⟨a0_0, a0_1, a0_2, a0_3, ⟨a0_4_0, a0_4_1, a0_4_2⟩, a0_5, a0_6⟩ := a0
 unfold gMj at h
 refine SpI Tryz.func177 fun A _ => ?_
 refine goL ?_
 obtain ⟨⟨x1_0, x1_1, x1_2, x1_3, x1_4, x1_5⟩, hx1, h⟩ := qU h
 have sx1 := hAi a0_0
 rw [hx1] at sx1
 refine jH (gF (sx1)) ?_
 refine jH (gF (gLr a0_0 1 12)) ?_
 obtain ⟨b2, hb2, h⟩ := qU h
 refine jU ⟨[(1, .ptr 0 0), (4, .B x1_1), (6, .B x1_3), (7, .I x1_4), (58, .B b2)], [.box [.I a0_0, .S a0_1, .S a0_2, .I a0_3, .I a0_4_0, .S a0_4_1, .L 3 (gJ a0_4_2), .L 9 (kM a0_5), .L 11 (qD a0_6)]], Tryz.f177.ntmps⟩ ?_ ?_
 ·refine gQ 26 (fun c3 => ?_) (fun c3 => ?_)
  ·replace hb2 := gW c3 hb2
   refine goL ?_
   cases hb2
   exact eJ
  ·replace hb2 := gX c3 hb2
   refine goL ?_
   refine uB ?_
   refine jH (gF (pI a0_1)) ?_
   refine gQ 33 (fun c4 => ?_) (fun c4 => ?_)
   ·replace hb2 := gW c4 hb2
    refine goL ?_
    cases hb2
    exact eJ
   ·replace hb2 := gX c4 hb2
    refine goL ?_
    refine gQ 36 (fun c5 => ?_) (fun c5 => ?_)
    ·replace hb2 := gW c5 hb2
     refine goL ?_
     refine gQ 42 (fun c6 => ?_) (fun c6 => ?_)
     ·replace hb2 := gW c6 hb2
      refine goL ?_
      cases hb2
      exact eJ
     ·replace hb2 := gX c6 hb2
      refine goL ?_
      refine gQ 45 (fun c7 => ?_) (fun c7 => ?_)
      ·replace hb2 := gW c7 hb2
       refine goL ?_
       refine gQ 51 (fun c8 => ?_) (fun c8 => ?_)
       ·replace hb2 := gW c8 hb2
        refine goL ?_
        cases hb2
        exact eJ
       ·replace hb2 := gX c8 hb2
        refine goL ?_
        cases hb2
        exact eJ
      ·replace hb2 := gX c7 hb2
       refine goL ?_
       cases hb2
       exact eJ
    ·replace hb2 := gX c5 hb2
     refine goL ?_
     refine gQ 45 (fun c9 => ?_) (fun c9 => ?_)
     ·replace hb2 := gW c9 hb2
      refine goL ?_
      refine gQ 51 (fun c10 => ?_) (fun c10 => ?_)
      ·replace hb2 := gW c10 hb2
       refine goL ?_
       cases hb2
       exact eJ
      ·replace hb2 := gX c10 hb2
       refine goL ?_
       cases hb2
       exact eJ
     ·replace hb2 := gX c9 hb2
      refine goL ?_
      cases hb2
      exact eJ
 refine goC h ?_ ?_<;>intro c11 h
 ·exact goR h
 ·refine goS ?_
  obtain ⟨b12, hb12, h⟩ := qU h
  refine jU ⟨[(1, .ptr 0 0), (6, .B x1_3), (7, .I x1_4), (88, .B b12)], [.box [.I a0_0, .S a0_1, .S a0_2, .I a0_3, .I a0_4_0, .S a0_4_1, .L 3 (gJ a0_4_2), .L 9 (kM a0_5), .L 11 (qD a0_6)]], Tryz.f177.ntmps⟩ ?_ ?_
  ·refine gQ 62 (fun c13 => ?_) (fun c13 => ?_)
   ·replace hb12 := gW c13 hb12
    refine goL ?_
    refine uB ?_
    refine jH (gF (gW4 a0_2)) ?_
    refine gQ 68 (fun c14 => ?_) (fun c14 => ?_)
    ·replace hb12 := gW c14 hb12
     refine goL ?_
     cases hb12
     exact eJ
    ·replace hb12 := gX c14 hb12
     refine goL ?_
     refine gQ 72 (fun c15 => ?_) (fun c15 => ?_)
     ·replace hb12 := gW c15 hb12
      refine goL ?_
      refine uB ?_
      refine jH (gF (pI a0_2)) ?_
      refine gQ 78 (fun c16 => ?_) (fun c16 => ?_)
      ·replace hb12 := gW c16 hb12
       refine goL ?_
       cases hb12
       exact eJ
      ·replace hb12 := gX c16 hb12
       refine goL ?_
       refine gQ 81 (fun c17 => ?_) (fun c17 => ?_)
       ·replace hb12 := gW c17 hb12
        refine goL ?_
        cases hb12
        exact eJ
       ·replace hb12 := gX c17 hb12
        refine goL ?_
        cases hb12
        exact eJ
     ·replace hb12 := gX c15 hb12
      refine goL ?_
      cases hb12
      exact eJ
   ·replace hb12 := gX c13 hb12
    refine goL ?_
    refine gQ 72 (fun c18 => ?_) (fun c18 => ?_)
    ·replace hb12 := gW c18 hb12
     refine goL ?_
     refine uB ?_
     refine jH (gF (pI a0_2)) ?_
     refine gQ 78 (fun c19 => ?_) (fun c19 => ?_)
     ·replace hb12 := gW c19 hb12
      refine goL ?_
      cases hb12
      exact eJ
     ·replace hb12 := gX c19 hb12
      refine goL ?_
      refine gQ 81 (fun c20 => ?_) (fun c20 => ?_)
      ·replace hb12 := gW c20 hb12
       refine goL ?_
       cases hb12
       exact eJ
      ·replace hb12 := gX c20 hb12
       refine goL ?_
       cases hb12
       exact eJ
    ·replace hb12 := gX c18 hb12
     refine goL ?_
     cases hb12
     exact eJ
  refine goC h ?_ ?_<;>intro c21 h
  ·exact goR h
  ·refine goS ?_
   obtain ⟨b22, hb22, h⟩ := gK h
   refine jU ⟨[(1, .ptr 0 0), (127, .B b22)], [.box [.I a0_0, .S a0_1, .S a0_2, .I a0_3, .I a0_4_0, .S a0_4_1, .L 3 (gJ a0_4_2), .L 9 (kM a0_5), .L 11 (qD a0_6)]], Tryz.f177.ntmps⟩ ?_ ?_
   ·refine gQ 91 (fun c23 => ?_) (fun c23 => ?_)
    ·replace hb22 := gW c23 hb22
     refine goL ?_
     refine gQ 98 (fun c24 => ?_) (fun c24 => ?_)
     ·replace hb22 := gW c24 hb22
      refine goL ?_
      cases hb22
      exact eJ
     ·replace hb22 := gX c24 hb22
      refine goL ?_
      refine gQ 102 (fun c25 => ?_) (fun c25 => ?_)
      ·replace hb22 := gW c25 hb22
       refine goL ?_
       refine gQ 109 (fun c26 => ?_) (fun c26 => ?_)
       ·replace hb22 := gW c26 hb22
        refine goL ?_
        cases hb22
        exact eJ
       ·replace hb22 := gX c26 hb22
        refine goL ?_
        refine gQ 111 (fun c27 => ?_) (fun c27 => ?_)
        ·replace hb22 := gW c27 hb22
         refine goL ?_
         refine uB ?_
         obtain ⟨x28, hx28, hb22⟩ := gK hb22
         refine jH (gF (zQ (gD.mk a0_4_0 a0_4_1 a0_4_2) hx28)) ?_
         refine gQ 118 (fun c29 => ?_) (fun c29 => ?_)
         ·replace hb22 := gW c29 hb22
          refine goL ?_
          cases hb22
          exact eJ
         ·replace hb22 := gX c29 hb22
          refine goL ?_
          refine gQ 121 (fun c30 => ?_) (fun c30 => ?_)
          ·replace hb22 := gW c30 hb22
           refine goL ?_
           refine uB ?_
           refine jH (gF (gBb (gD.mk a0_4_0 a0_4_1 a0_4_2))) ?_
           cases hb22
           exact eJ
          ·replace hb22 := gX c30 hb22
           refine goL ?_
           cases hb22
           exact eJ
        ·replace hb22 := gX c27 hb22
         refine goL ?_
         refine gQ 121 (fun c31 => ?_) (fun c31 => ?_)
         ·replace hb22 := gW c31 hb22
          refine goL ?_
          refine uB ?_
          refine jH (gF (gBb (gD.mk a0_4_0 a0_4_1 a0_4_2))) ?_
          cases hb22
          exact eJ
         ·replace hb22 := gX c31 hb22
          refine goL ?_
          cases hb22
          exact eJ
      ·replace hb22 := gX c25 hb22
       refine goL ?_
       refine gQ 111 (fun c32 => ?_) (fun c32 => ?_)
       ·replace hb22 := gW c32 hb22
        refine goL ?_
        refine uB ?_
        obtain ⟨x33, hx33, hb22⟩ := gK hb22
        refine jH (gF (zQ (gD.mk a0_4_0 a0_4_1 a0_4_2) hx33)) ?_
        refine gQ 118 (fun c34 => ?_) (fun c34 => ?_)
        ·replace hb22 := gW c34 hb22
         refine goL ?_
         cases hb22
         exact eJ
        ·replace hb22 := gX c34 hb22
         refine goL ?_
         refine gQ 121 (fun c35 => ?_) (fun c35 => ?_)
         ·replace hb22 := gW c35 hb22
          refine goL ?_
          refine uB ?_
          refine jH (gF (gBb (gD.mk a0_4_0 a0_4_1 a0_4_2))) ?_
          cases hb22
          exact eJ
         ·replace hb22 := gX c35 hb22
          refine goL ?_
          cases hb22
          exact eJ
       ·replace hb22 := gX c32 hb22
        refine goL ?_
        refine gQ 121 (fun c36 => ?_) (fun c36 => ?_)
        ·replace hb22 := gW c36 hb22
         refine goL ?_
         refine uB ?_
         refine jH (gF (gBb (gD.mk a0_4_0 a0_4_1 a0_4_2))) ?_
         cases hb22
         exact eJ
        ·replace hb22 := gX c36 hb22
         refine goL ?_
         cases hb22
         exact eJ
    ·replace hb22 := gX c23 hb22
     refine goL ?_
     refine gQ 102 (fun c37 => ?_) (fun c37 => ?_)
     ·replace hb22 := gW c37 hb22
      refine goL ?_
      refine gQ 109 (fun c38 => ?_) (fun c38 => ?_)
      ·replace hb22 := gW c38 hb22
       refine goL ?_
       cases hb22
       exact eJ
      ·replace hb22 := gX c38 hb22
       refine goL ?_
       refine gQ 111 (fun c39 => ?_) (fun c39 => ?_)
       ·replace hb22 := gW c39 hb22
        refine goL ?_
        refine uB ?_
        obtain ⟨x40, hx40, hb22⟩ := gK hb22
        refine jH (gF (zQ (gD.mk a0_4_0 a0_4_1 a0_4_2) hx40)) ?_
        refine gQ 118 (fun c41 => ?_) (fun c41 => ?_)
        ·replace hb22 := gW c41 hb22
         refine goL ?_
         cases hb22
         exact eJ
        ·replace hb22 := gX c41 hb22
         refine goL ?_
         refine gQ 121 (fun c42 => ?_) (fun c42 => ?_)
         ·replace hb22 := gW c42 hb22
          refine goL ?_
          refine uB ?_
          refine jH (gF (gBb (gD.mk a0_4_0 a0_4_1 a0_4_2))) ?_
          cases hb22
          exact eJ
         ·replace hb22 := gX c42 hb22
          refine goL ?_
          cases hb22
          exact eJ
       ·replace hb22 := gX c39 hb22
        refine goL ?_
        refine gQ 121 (fun c43 => ?_) (fun c43 => ?_)
        ·replace hb22 := gW c43 hb22
         refine goL ?_
         refine uB ?_
         refine jH (gF (gBb (gD.mk a0_4_0 a0_4_1 a0_4_2))) ?_
         cases hb22
         exact eJ
        ·replace hb22 := gX c43 hb22
         refine goL ?_
         cases hb22
         exact eJ
     ·replace hb22 := gX c37 hb22
      refine goL ?_
      refine gQ 111 (fun c44 => ?_) (fun c44 => ?_)
      ·replace hb22 := gW c44 hb22
       refine goL ?_
       refine uB ?_
       obtain ⟨x45, hx45, hb22⟩ := gK hb22
       refine jH (gF (zQ (gD.mk a0_4_0 a0_4_1 a0_4_2) hx45)) ?_
       refine gQ 118 (fun c46 => ?_) (fun c46 => ?_)
       ·replace hb22 := gW c46 hb22
        refine goL ?_
        cases hb22
        exact eJ
       ·replace hb22 := gX c46 hb22
        refine goL ?_
        refine gQ 121 (fun c47 => ?_) (fun c47 => ?_)
        ·replace hb22 := gW c47 hb22
         refine goL ?_
         refine uB ?_
         refine jH (gF (gBb (gD.mk a0_4_0 a0_4_1 a0_4_2))) ?_
         cases hb22
         exact eJ
        ·replace hb22 := gX c47 hb22
         refine goL ?_
         cases hb22
         exact eJ
      ·replace hb22 := gX c44 hb22
       refine goL ?_
       refine gQ 121 (fun c48 => ?_) (fun c48 => ?_)
       ·replace hb22 := gW c48 hb22
        refine goL ?_
        refine uB ?_
        refine jH (gF (gBb (gD.mk a0_4_0 a0_4_1 a0_4_2))) ?_
        cases hb22
        exact eJ
       ·replace hb22 := gX c48 hb22
        refine goL ?_
        cases hb22
        exact eJ
   refine goC h ?_ ?_<;>intro c49 h
   ·exact goR h
   ·refine goS ?_
    obtain ⟨b50, hb50, h⟩ := qU h
    refine jU ⟨[(1, .ptr 0 0), (147, .B b50)], [.box [.I a0_0, .S a0_1, .S a0_2, .I a0_3, .I a0_4_0, .S a0_4_1, .L 3 (gJ a0_4_2), .L 9 (kM a0_5), .L 11 (qD a0_6)]], Tryz.f177.ntmps⟩ ?_ ?_
    ·refine gQ 131 (fun c51 => ?_) (fun c51 => ?_)
     ·replace hb50 := gW c51 hb50
      refine goL ?_
      refine uB ?_
      refine jH (gF (gLr a0_3 (-999999) 999999)) ?_
      refine gQ 137 (fun c52 => ?_) (fun c52 => ?_)
      ·replace hb50 := gW c52 hb50
       refine goL ?_
       cases hb50
       exact eJ
      ·replace hb50 := gX c52 hb50
       refine goL ?_
       refine gQ 141 (fun c53 => ?_) (fun c53 => ?_)
       ·replace hb50 := gW c53 hb50
        refine goL ?_
        refine uB ?_
        refine jH (gF (gLr a0_3 0 1)) ?_
        cases hb50
        exact eJ
       ·replace hb50 := gX c53 hb50
        refine goL ?_
        cases hb50
        exact eJ
     ·replace hb50 := gX c51 hb50
      refine goL ?_
      refine gQ 141 (fun c54 => ?_) (fun c54 => ?_)
      ·replace hb50 := gW c54 hb50
       refine goL ?_
       refine uB ?_
       refine jH (gF (gLr a0_3 0 1)) ?_
       cases hb50
       exact eJ
      ·replace hb50 := gX c54 hb50
       refine goL ?_
       cases hb50
       exact eJ
    refine goC h ?_ ?_<;>intro c55 h
    ·exact goR h
    ·refine goS ?_
     refine noB ?_
     refine vJ 0 7 (fun z57 => ?_)
     refine mY (fun (y56 : Nat) => ⟨[(1, .ptr 0 0), (9, .N y56)], [.box [.I a0_0, .S a0_1, .S a0_2, .I a0_3, .I a0_4_0, .S a0_4_1, .L 3 (gJ a0_4_2), .L 9 (kM a0_5), .L 11 (qD a0_6)]], Tryz.f177.ntmps⟩) (fun y56 => gDe rec_l11Form (jO.mk a0_0 a0_1 a0_2 a0_3 (gD.mk a0_4_0 a0_4_1 a0_4_2) a0_5 a0_6) (a0_5.drop y56)  = some r) (fun y56 => a0_5.length - y56) 0 eJ h ?_
     rintro y56 h
     refine goL ?_
     refine mF (fun c58 => ?_) (fun c58 => ?_)
     ·have hky562 := vO c58
      obtain ⟨x59, hx59, hdx59⟩ := drop_at hky562
      rw [hdx59, gDe.eq_2] at h
      obtain ⟨x59_0, x59_1, x59_2, x59_3, ⟨x59_4_0, x59_4_1, x59_4_2⟩, x59_5, x59_6⟩ := x59
      refine noS ?_
      refine kD (jC ?_)
      refine goL ?_
      refine jH (jJ y56 (gS5 hx59)) ?_
      obtain ⟨x60, hx60, h⟩ := gK h
      refine jH (gF (hrec_l11Form (jO.mk x59_0 x59_1 x59_2 x59_3 (gD.mk x59_4_0 x59_4_1 x59_4_2) x59_5 x59_6) hx60)) ?_
      refine mF (fun c61 => ?_) (fun c61 => ?_)
      ·replace h := gW c61 h
       exact goR h
      ·replace h := gX c61 h
       refine goS ?_
       refine jH (jT y56 (by omega)) ?_
       exact ⟨(y56 + 1), h, by omega, eJ⟩
     ·have hky562 := vP c58
      rw [jE hky562, gDe.eq_1] at h
      refine goX ?_
      refine noB ?_
      refine vJ 0 8 (fun z63 => ?_)
      refine mY (fun (y62 : Nat) => ⟨[(1, .ptr 0 0), (10, .N y62)], [.box [.I a0_0, .S a0_1, .S a0_2, .I a0_3, .I a0_4_0, .S a0_4_1, .L 3 (gJ a0_4_2), .L 9 (kM a0_5), .L 11 (qD a0_6)]], Tryz.f177.ntmps⟩) (fun y62 => gDd rec_l11Form (a0_6.drop y62)  = some r) (fun y62 => a0_6.length - y62) 0 eJ h ?_
      rintro y62 h
      refine goL ?_
      refine mF (fun c64 => ?_) (fun c64 => ?_)
      ·have hky622 := vO c64
       obtain ⟨x65, hx65, hdx65⟩ := drop_at hky622
       rw [hdx65, gDd.eq_2] at h
       obtain ⟨x65_0, x65_1, ⟨x65_2_0, x65_2_1, x65_2_2, x65_2_3, ⟨x65_2_4_0, x65_2_4_1, x65_2_4_2⟩, x65_2_5, x65_2_6⟩⟩ := x65
       refine noS ?_
       refine kD (jC ?_)
       refine goL ?_
       refine jH (jJ y62 (gX5 hx65)) ?_
       refine jH (gF (pI x65_0)) ?_
       obtain ⟨b66, hb66, h⟩ := gK h
       refine jU ⟨[(1, .ptr 0 0), (10, .N y62), (195, .B b66)], [.box [.I a0_0, .S a0_1, .S a0_2, .I a0_3, .I a0_4_0, .S a0_4_1, .L 3 (gJ a0_4_2), .L 9 (kM a0_5), .L 11 (qD a0_6)], .box [.S x65_0, .L 1 (gY x65_1), .I x65_2_0, .S x65_2_1, .S x65_2_2, .I x65_2_3, .I x65_2_4_0, .S x65_2_4_1, .L 3 (gJ x65_2_4_2), .L 9 (kM x65_2_5), .L 11 (qD x65_2_6)]], Tryz.f177.ntmps⟩ ?_ ?_
       ·refine gQ 178 (fun c67 => ?_) (fun c67 => ?_)
        ·replace hb66 := gW c67 hb66
         refine goL ?_
         cases hb66
         exact eJ
        ·replace hb66 := gX c67 hb66
         refine goL ?_
         refine uB ?_
         refine jH (gF (gQ8 x65_1)) ?_
         refine gQ 184 (fun c68 => ?_) (fun c68 => ?_)
         ·replace hb66 := gW c68 hb66
          refine goL ?_
          cases hb66
          exact eJ
         ·replace hb66 := gX c68 hb66
          refine goL ?_
          refine uB ?_
          obtain ⟨x69, hx69, hb66⟩ := gK hb66
          refine jH (gF (zT x65_1 hx69)) ?_
          refine gQ 190 (fun c70 => ?_) (fun c70 => ?_)
          ·replace hb66 := gW c70 hb66
           refine goL ?_
           cases hb66
           exact eJ
          ·replace hb66 := gX c70 hb66
           refine goL ?_
           refine uB ?_
           obtain ⟨x71, hx71, hb66⟩ := gK hb66
           refine jH (gF (hrec_l11Form (jO.mk x65_2_0 x65_2_1 x65_2_2 x65_2_3 (gD.mk x65_2_4_0 x65_2_4_1 x65_2_4_2) x65_2_5 x65_2_6) hx71)) ?_
           cases hb66
           exact eJ
       refine goC h ?_ ?_<;>intro c72 h
       ·exact goR h
       ·refine goS ?_
        refine jH (jT y62 (by omega)) ?_
        exact ⟨(y62 + 1), h, by omega, eJ⟩
      ·have hky622 := vP c64
       rw [jE hky622, gDd.eq_1] at h
       refine goX ?_
       refine jN ?_
       cases h
       exact qH
def gMk : Nat → jO → Option (Bool)
 | 0, _ => none
 | n + 1, x0 => gMj (gMk n) x0
theorem gWs : ∀ (n : Nat) (x0 : jO) {r : Bool}, gMk n x0 = some r → jB Tryz.prog 177 [.d (yO x0)] [.b r] := by
 intro n
 induction n with
 | zero => intro x0 r h; cases h
 | succ n ih => intro x0 r h; exact gWr ih x0 h
def gKz (a0 : Bool) (a1 : gB) : Option (gB) :=
bnd ((cnd (!a0) ((some true)) (bnd (pW a1) fun x3 =>
(some (!x3))))) fun b1 =>
(cnd b1 (
(some (gB.mk [] []))) (
(some a1)))
theorem gPd (a0 : Bool) (a1 : gB) {r : gB} (h : gKz a0 a1 = some r) : jB Tryz.prog 136 [.B a0, .d (mD a1)] [mD r] := by
 obtain ⟨a1_0, a1_1⟩ := a1
 unfold gKz at h
 refine SpI Tryz.func136 fun A _ => ?_
 refine goL ?_
 obtain ⟨b1, hb1, h⟩ := gK h
 refine jU ⟨[(3, .ptr 0 0), (4, .ptr 1 0), (11, .B b1)], [.box [.S a1_0, .L 2 (gM a1_1)], .box [.S [], .nilsl]], Tryz.f136.ntmps⟩ ?_ ?_
 ·refine gQ 7 (fun c2 => ?_) (fun c2 => ?_)
  ·replace hb1 := gW c2 hb1
   refine goL ?_
   cases hb1
   exact eJ
  ·replace hb1 := gX c2 hb1
   refine goL ?_
   refine uB ?_
   obtain ⟨x3, hx3, hb1⟩ := gK hb1
   refine jH (gF (wC (gB.mk a1_0 a1_1) hx3)) ?_
   cases hb1
   exact eJ
 refine goC h ?_ ?_<;>intro c4 h
 ·refine goL ?_
  refine gBm (kE TBd.h TZ.h rfl (by repeat constructor)) ?_
  exact goR h
 ·refine goS ?_
  refine jN ?_
  cases h
  exact qH
def gEw (a0 : jF) : Option (Bool) :=
bnd ((cnd (kV a0.trait) (bnd (vQ a0.type_) fun x3 =>
(some x3)) ((some false)))) fun b1 =>
(some b1)
theorem gMl (a0 : jF) {r : Bool} (h : gEw a0 = some r) : jB Tryz.prog 159 [.d (gAi a0)] [.b r] := by
 obtain ⟨a0_0, ⟨a0_1_0, a0_1_1, a0_1_2⟩⟩ := a0
 unfold gEw at h
 refine SpI Tryz.func159 fun A _ => ?_
 refine goL ?_
 refine jH (gF (pI a0_0)) ?_
 obtain ⟨b1, hb1, h⟩ := gK h
 refine jU ⟨[(2, .B b1)], [.box [.S a0_0, .I a0_1_0, .S a0_1_1, .L 3 (gJ a0_1_2)]], Tryz.f159.ntmps⟩ ?_ ?_
 ·refine gQ 6 (fun c2 => ?_) (fun c2 => ?_)
  ·replace hb1 := gW c2 hb1
   refine goL ?_
   refine uB ?_
   obtain ⟨x3, hx3, hb1⟩ := gK hb1
   refine jH (gF (zQ (gD.mk a0_1_0 a0_1_1 a0_1_2) hx3)) ?_
   cases hb1
   exact eJ
  ·replace hb1 := gX c2 hb1
   refine goL ?_
   cases hb1
   exact eJ
 exact goR h
end Go.Proofs.YtfaplndgbgoaaaaGreat
