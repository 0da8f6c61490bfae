import Derived.Test.YtfaplndgbgoaaaaGreatEng38
import Derived.Test.YtfaplndgbgoaaaaGreatEng67
import Derived.Test.YtfaplndgbgoaaaaGreatVr
import Derived.Test.YtfaplndgbgoaaaaGreatB14
import Derived.Test.YtfaplndgbgoaaaaGreatB12
import Derived.Test.YtfaplndgbgoaaaaGreatB15
import Derived.Test.YtfaplndgbgoaaaaGreatB3
import Derived.Test.YtfaplndgbgoaaaaGreatB6
set_option maxHeartbeats 4000000
set_option linter.unusedVariables false
set_option linter.unusedSimpArgs false
set_option linter.unusedSectionVars false
namespace Go.Proofs.YtfaplndgbgoaaaaGreat
open Go Go.Eng
attribute [local irreducible] V VO VQ VY Quiet QR jB kR Rng uX vB qY
def uP (x17 : gB) : List gBn → (List gB) → Option (gB)
 | [], y18 => bnd (gKz true (gB.mk x17.atom y18)) fun x29 =>
(some x29)
 | x23 :: xs, y18 => lt_ (kU x23.name) fun x24 =>
bnd (zR x23.vars) fun x25 =>
bnd (gJk 5000 x23.body) fun x26 =>
bnd (gF7 [x24, x25, x26]) fun x27 =>
gd (y18.length + [x27].length ≤ 4294967296) (
uP x17 xs (y18 ++ [x27]))
def gB7 (a0 : jZ) : Option (gB) :=
bnd (zY a0) fun x1 =>
(cnd (!x1) (
(some (gB.mk [] []))) (
bnd ((cnd a0.default_ (
gd (([] : List (List UInt8)).length + ([[100, 101, 102, 97, 117, 108, 116]] : List (List UInt8)).length ≤ 4294967296) (
(some ([] ++ [[100, 101, 102, 97, 117, 108, 116]])))) (
(some [])))) fun b3 =>
bnd ((cnd a0.hasAssoc (
bnd (gJb 5000 a0.assoc) fun x9 =>
bnd (gF7 [x9]) fun x10 =>
(some (x10.atom, x10.list))) (
(some ([], []))))) fun b7 =>
lt_ (kU [105, 110, 115, 116]) fun x11 =>
lt_ (kU a0.trait) fun x12 =>
bnd (zR a0.vars) fun x13 =>
bnd (gJb 5000 a0.head) fun x14 =>
bnd (gIs a0.where_) fun x15 =>
bnd (zR b3) fun x16 =>
bnd (gGt [x11, x12, x13, x14, x15, x16, (gB.mk b7.1 b7.2)]) fun x17 =>
uP x17 a0.methods x17.list))
theorem gJ2 (a0 : jZ) {r : gB} (h : gB7 a0 = some r) : jB Tryz.prog 111 [.d (gCl a0)] [mD r] := by
 obtain ⟨a0_0, a0_1, ⟨a0_2_0, a0_2_1, a0_2_2⟩, a0_3, a0_4, a0_5, ⟨a0_6_0, a0_6_1, a0_6_2⟩, a0_7⟩ := a0
 unfold gB7 at h
 refine SpI Tryz.func111 fun A _ => ?_
 refine goL ?_
 obtain ⟨x1, hx1, h⟩ := gK h
 refine jH (gF (gFv (jZ.mk a0_0 a0_1 (gD.mk a0_2_0 a0_2_1 a0_2_2) a0_3 a0_4 a0_5 (gD.mk a0_6_0 a0_6_1 a0_6_2) a0_7) hx1)) ?_
 refine mF (fun c2 => ?_) (fun c2 => ?_)
 ·replace h := gW c2 h
  refine goL ?_
  refine gBm (kE TBd.h TZ.h rfl (by repeat constructor)) ?_
  exact goR h
 ·replace h := gX c2 h
  refine goS ?_
  refine gFh ?_
  refine goL ?_
  obtain ⟨b3, hb3, h⟩ := gK h
  refine gLa (fun v4 => ⟨[(1, .ptr 0 0), (2, .ptr 1 0), (3, .sl 2 v4)], [.box [.S a0_0, .L 1 (gY a0_1), .I a0_2_0, .S a0_2_1, .L 3 (gJ a0_2_2), .L 4 (jV a0_3), .B a0_4, .B a0_5, .I a0_6_0, .S a0_6_1, .L 3 (gJ a0_6_2), .L 11 (mR a0_7)], .box [.S [], .nilsl], .own 9 1 v4 (gY b3)], Tryz.f111.ntmps⟩) ?_ (fun v4 => ?_)
  ·refine mF (fun c5 => ?_) (fun c5 => ?_)
   ·replace hb3 := gW c5 hb3
    refine goL ?_
    refine gA7 ([100, 101, 102, 97, 117, 108, 116] : List UInt8) ?_
    obtain ⟨g6, hb3⟩ := pF hb3
    refine gGo g6 ?_
    refine goL ?_
    cases hb3
    exact ⟨(0 + 1), eJ⟩
   ·replace hb3 := gX c5 hb3
    refine gA6 ?_
    cases hb3
    exact ⟨0, eJ⟩
  refine goL ?_
  refine gFj (kE TBd.h TZ.h rfl (by repeat constructor)) ?_
  refine gRr 2 3 1 rfl rfl (by repeat constructor) (by repeat constructor) ?_
  obtain ⟨⟨b7_0, b7_1⟩, hb7, h⟩ := gK h
  refine gD8 ⟨[(1, .ptr 0 0), (2, .ptr 1 0), (3, .sl 2 v4), (4, .ptr 3 0)], [.box [.S a0_0, .L 1 (gY a0_1), .I a0_2_0, .S a0_2_1, .L 3 (gJ a0_2_2), .L 4 (jV a0_3), .B a0_4, .B a0_5, .I a0_6_0, .S a0_6_1, .L 3 (gJ a0_6_2), .L 11 (mR a0_7)], .box [.S [], .nilsl], .own 9 1 v4 (gY b3), .box [.S b7_0, .L 2 (gM b7_1)]], Tryz.f111.ntmps⟩ ?_ ?_
  ·refine mF (fun c8 => ?_) (fun c8 => ?_)
   ·replace hb7 := gW c8 hb7
    refine goL ?_
    obtain ⟨⟨x9_0, x9_1⟩, hx9, hb7⟩ := gK hb7
    refine qQ (gF (gHn 5000 (gD.mk a0_6_0 a0_6_1 a0_6_2) hx9)) ?_
    refine gBc (u := (.st [.s x9_0, .sl 2 (gM x9_1)])) ?_
    refine vL 4 rfl rfl ?_
    refine gYq ?_
    obtain ⟨⟨x10_0, x10_1⟩, hx10, hb7⟩ := gK hb7
    refine gFj (gX3 (gI1 [(gB.mk x9_0 x9_1)] hx10)) ?_
    cases hb7
    exact eJ
   ·replace hb7 := gX c8 hb7
    refine gA6 ?_
    cases hb7
    exact eJ
  refine gIx ?_
  refine wI 2 rfl rfl ?_
  refine hKy ?_
  obtain ⟨⟨x11_0, x11_1⟩, hx11, h⟩ := qU h
  have sx11 := mE [105, 110, 115, 116]
  rw [hx11] at sx11
  obtain ⟨⟨x12_0, x12_1⟩, hx12, h⟩ := qU h
  have sx12 := mE a0_0
  rw [hx12] at sx12
  obtain ⟨⟨x13_0, x13_1⟩, hx13, h⟩ := gK h
  obtain ⟨⟨x14_0, x14_1⟩, hx14, h⟩ := gK h
  obtain ⟨⟨x15_0, x15_1⟩, hx15, h⟩ := gK h
  obtain ⟨⟨x16_0, x16_1⟩, hx16, h⟩ := gK h
  obtain ⟨⟨x17_0, x17_1⟩, hx17, h⟩ := gK h
  refine uW (P := Tryz.prog) Mix.h (.q 1 (.q 2 (.q 4 (.q 5 (.q 7 (.q 8 (.q 10 (.q 11 (.q 13 (.q 15 (.h 0 (.h 3 (.h 6 (.h 9 (.h 12 (.h 14 (.h 16 (.h 17 (.h 18 (.h 19 .nil .nil) .nil) (.h 18 (.h 17 (.h 19 .nil .nil) .nil) .nil)) (.h 18 (.h 16 (.h 17 (.h 19 .nil .nil) .nil) .nil) .nil)) (.h 18 (.h 14 (.h 16 (.h 17 (.h 19 .nil .nil) .nil) .nil) .nil) .nil)) (.h 18 (.h 12 (.h 14 (.h 16 (.h 17 (.h 19 .nil .nil) .nil) .nil) .nil) .nil) .nil)) (.h 18 (.h 9 (.h 12 (.h 14 (.h 16 (.h 17 (.h 19 .nil .nil) .nil) .nil) .nil) .nil) .nil) .nil)) (.h 18 (.h 6 (.h 9 (.h 12 (.h 14 (.h 16 (.h 17 (.h 19 .nil .nil) .nil) .nil) .nil) .nil) .nil) .nil) .nil)) (.h 18 (.h 3 (.h 6 (.h 9 (.h 12 (.h 14 (.h 16 (.h 17 (.h 19 .nil .nil) .nil) .nil) .nil) .nil) .nil) .nil) .nil) .nil)) (.h 18 (.h 0 (.h 3 (.h 6 (.h 9 (.h 12 (.h 14 (.h 16 (.h 17 (.h 19 .nil .nil) .nil) .nil) .nil) .nil) .nil) .nil) .nil) .nil) .nil)))))))))))) ⟨[(1, .ptr 0 0), (2, .ptr 1 0), (5, .ptr 6 0)], [.box [.S a0_0, .L 1 (gY a0_1), .I a0_2_0, .S a0_2_1, .L 3 (gJ a0_2_2), .L 4 (jV a0_3), .B a0_4, .B a0_5, .I a0_6_0, .S a0_6_1, .L 3 (gJ a0_6_2), .L 11 (mR a0_7)], .box [.S [], .nilsl], .frz 9 1 v4 (gY b3), .box [.S b7_0, .L 2 (gM b7_1)], .frz 113 2 0 (gM [(gB.mk x11_0 x11_1), (gB.mk x12_0 x12_1), (gB.mk x13_0 x13_1), (gB.mk x14_0 x14_1), (gB.mk x15_0 x15_1), (gB.mk x16_0 x16_1), (gB.mk b7_0 b7_1)]), .arr 113 2 0 (gM x17_1), .box [.S x17_0, .sl 5 0]], Tryz.f111.ntmps⟩ (by kernel_rfl) ?_ ?_
  ·refine goT ?_
   refine wO (mZ (sx11) jS) ?_ ?_
   ·refine wO (mZ (sx12) jS) ?_ ?_
    ·refine wO (mZ (qR a0_1 hx13) jS) ?_ ?_
     ·refine wO (mZ (gHn 5000 (gD.mk a0_2_0 a0_2_1 a0_2_2) hx14) jS) ?_ ?_
      ·refine wO (mZ (gCs a0_3 hx15) jS) ?_ ?_
       ·refine wO (mZ (qR b3 hx16) jS) ?_ ?_
        ·refine wO (pY (T := 111) (us := gM [(gB.mk x11_0 x11_1), (gB.mk x12_0 x12_1), (gB.mk x13_0 x13_1), (gB.mk x14_0 x14_1), (gB.mk x15_0 x15_1), (gB.mk x16_0 x16_1), (gB.mk b7_0 b7_1)]) jS) ?_ ?_
         ·refine wO (zO 4 rfl rfl (gBy (sv := .ag [.S x17_0, .sl 5 0]) (L' := [.box [.S a0_0, .L 1 (gY a0_1), .I a0_2_0, .S a0_2_1, .L 3 (gJ a0_2_2), .L 4 (jV a0_3), .B a0_4, .B a0_5, .I a0_6_0, .S a0_6_1, .L 3 (gJ a0_6_2), .L 11 (mR a0_7)], .box [.S [], .nilsl], .frz 9 1 v4 (gY b3), .box [.S b7_0, .L 2 (gM b7_1)], .frz 113 2 0 (gM [(gB.mk x11_0 x11_1), (gB.mk x12_0 x12_1), (gB.mk x13_0 x13_1), (gB.mk x14_0 x14_1), (gB.mk x15_0 x15_1), (gB.mk x16_0 x16_1), (gB.mk b7_0 b7_1)]), .arr 113 2 0 (gM x17_1)]) [] (uF [(gB.mk x11_0 x11_1), (gB.mk x12_0 x12_1), (gB.mk x13_0 x13_1), (gB.mk x14_0 x14_1), (gB.mk x15_0 x15_1), (gB.mk x16_0 x16_1), (gB.mk b7_0 b7_1)] hx17) jS)) ?_ ?_
          ·refine goT ?_
           refine jX ?_
           exact vC 0 [0, 1, 2, 3, 4, 5, 6]
          refine goT ?_
          refine jR (zO 4 rfl rfl (gBy (sv := .ag [.S x17_0, .sl 6 0]) (L' := [.box [.S a0_0, .L 1 (gY a0_1), .I a0_2_0, .S a0_2_1, .L 3 (gJ a0_2_2), .L 4 (jV a0_3), .B a0_4, .B a0_5, .I a0_6_0, .S a0_6_1, .L 3 (gJ a0_6_2), .L 11 (mR a0_7)], .box [.S [], .nilsl], .frz 9 1 v4 (gY b3), .box [.S b7_0, .L 2 (gM b7_1)], .frz 113 2 0 (gM [(gB.mk x11_0 x11_1), (gB.mk x12_0 x12_1), (gB.mk x13_0 x13_1), (gB.mk x14_0 x14_1), (gB.mk x15_0 x15_1), (gB.mk x16_0 x16_1), (gB.mk b7_0 b7_1)]), .box [.S [], .nilsl], .arr 113 2 0 (gM x17_1)]) [] (uF [(gB.mk x11_0 x11_1), (gB.mk x12_0 x12_1), (gB.mk x13_0 x13_1), (gB.mk x14_0 x14_1), (gB.mk x15_0 x15_1), (gB.mk x16_0 x16_1), (gB.mk b7_0 b7_1)] hx17) jS)) ?_
          refine goT ?_
          refine jX ?_
          exact vC 0 [0, 1, 2, 3, 4, 6, 5]
         refine goT ?_
         refine jR (pY (T := 111) (us := gM [(gB.mk x11_0 x11_1), (gB.mk x12_0 x12_1), (gB.mk x13_0 x13_1), (gB.mk x14_0 x14_1), (gB.mk x15_0 x15_1), (gB.mk x16_0 x16_1), (gB.mk b7_0 b7_1)]) jS) ?_
         refine jR (zO 5 rfl rfl (gBy (sv := .ag [.S x17_0, .sl 6 0]) (L' := [.box [.S a0_0, .L 1 (gY a0_1), .I a0_2_0, .S a0_2_1, .L 3 (gJ a0_2_2), .L 4 (jV a0_3), .B a0_4, .B a0_5, .I a0_6_0, .S a0_6_1, .L 3 (gJ a0_6_2), .L 11 (mR a0_7)], .box [.S [], .nilsl], .frz 9 1 v4 (gY b3), .box [.S b7_0, .L 2 (gM b7_1)], .box [.S [], .nilsl], .frz 113 2 0 (gM [(gB.mk x11_0 x11_1), (gB.mk x12_0 x12_1), (gB.mk x13_0 x13_1), (gB.mk x14_0 x14_1), (gB.mk x15_0 x15_1), (gB.mk x16_0 x16_1), (gB.mk b7_0 b7_1)]), .arr 113 2 0 (gM x17_1)]) [] (uF [(gB.mk x11_0 x11_1), (gB.mk x12_0 x12_1), (gB.mk x13_0 x13_1), (gB.mk x14_0 x14_1), (gB.mk x15_0 x15_1), (gB.mk x16_0 x16_1), (gB.mk b7_0 b7_1)] hx17) jS)) ?_
         refine goT ?_
         refine jX ?_
         exact vC 0 [0, 1, 2, 3, 5, 6, 4]
        refine goT ?_
        refine jR (mZ (qR b3 hx16) jS) ?_
        refine jR (pY (T := 111) (us := gM [(gB.mk x11_0 x11_1), (gB.mk x12_0 x12_1), (gB.mk x13_0 x13_1), (gB.mk x14_0 x14_1), (gB.mk x15_0 x15_1), (gB.mk x16_0 x16_1), (gB.mk b7_0 b7_1)]) jS) ?_
        refine jR (zO 5 rfl rfl (gBy (sv := .ag [.S x17_0, .sl 6 0]) (L' := [.box [.S a0_0, .L 1 (gY a0_1), .I a0_2_0, .S a0_2_1, .L 3 (gJ a0_2_2), .L 4 (jV a0_3), .B a0_4, .B a0_5, .I a0_6_0, .S a0_6_1, .L 3 (gJ a0_6_2), .L 11 (mR a0_7)], .box [.S [], .nilsl], .frz 9 1 v4 (gY b3), .box [.S b7_0, .L 2 (gM b7_1)], .box [.S [], .nilsl], .frz 113 2 0 (gM [(gB.mk x11_0 x11_1), (gB.mk x12_0 x12_1), (gB.mk x13_0 x13_1), (gB.mk x14_0 x14_1), (gB.mk x15_0 x15_1), (gB.mk x16_0 x16_1), (gB.mk b7_0 b7_1)]), .arr 113 2 0 (gM x17_1)]) [] (uF [(gB.mk x11_0 x11_1), (gB.mk x12_0 x12_1), (gB.mk x13_0 x13_1), (gB.mk x14_0 x14_1), (gB.mk x15_0 x15_1), (gB.mk x16_0 x16_1), (gB.mk b7_0 b7_1)] hx17) jS)) ?_
        refine goT ?_
        refine jX ?_
        exact vC 0 [0, 1, 2, 3, 5, 6, 4]
       refine goT ?_
       refine jR (mZ (gCs a0_3 hx15) jS) ?_
       refine jR (mZ (qR b3 hx16) jS) ?_
       refine jR (pY (T := 111) (us := gM [(gB.mk x11_0 x11_1), (gB.mk x12_0 x12_1), (gB.mk x13_0 x13_1), (gB.mk x14_0 x14_1), (gB.mk x15_0 x15_1), (gB.mk x16_0 x16_1), (gB.mk b7_0 b7_1)]) jS) ?_
       refine jR (zO 5 rfl rfl (gBy (sv := .ag [.S x17_0, .sl 6 0]) (L' := [.box [.S a0_0, .L 1 (gY a0_1), .I a0_2_0, .S a0_2_1, .L 3 (gJ a0_2_2), .L 4 (jV a0_3), .B a0_4, .B a0_5, .I a0_6_0, .S a0_6_1, .L 3 (gJ a0_6_2), .L 11 (mR a0_7)], .box [.S [], .nilsl], .frz 9 1 v4 (gY b3), .box [.S b7_0, .L 2 (gM b7_1)], .box [.S [], .nilsl], .frz 113 2 0 (gM [(gB.mk x11_0 x11_1), (gB.mk x12_0 x12_1), (gB.mk x13_0 x13_1), (gB.mk x14_0 x14_1), (gB.mk x15_0 x15_1), (gB.mk x16_0 x16_1), (gB.mk b7_0 b7_1)]), .arr 113 2 0 (gM x17_1)]) [] (uF [(gB.mk x11_0 x11_1), (gB.mk x12_0 x12_1), (gB.mk x13_0 x13_1), (gB.mk x14_0 x14_1), (gB.mk x15_0 x15_1), (gB.mk x16_0 x16_1), (gB.mk b7_0 b7_1)] hx17) jS)) ?_
       refine goT ?_
       refine jX ?_
       exact vC 0 [0, 1, 2, 3, 5, 6, 4]
      refine goT ?_
      refine jR (mZ (gHn 5000 (gD.mk a0_2_0 a0_2_1 a0_2_2) hx14) jS) ?_
      refine jR (mZ (gCs a0_3 hx15) jS) ?_
      refine jR (mZ (qR b3 hx16) jS) ?_
      refine jR (pY (T := 111) (us := gM [(gB.mk x11_0 x11_1), (gB.mk x12_0 x12_1), (gB.mk x13_0 x13_1), (gB.mk x14_0 x14_1), (gB.mk x15_0 x15_1), (gB.mk x16_0 x16_1), (gB.mk b7_0 b7_1)]) jS) ?_
      refine jR (zO 5 rfl rfl (gBy (sv := .ag [.S x17_0, .sl 6 0]) (L' := [.box [.S a0_0, .L 1 (gY a0_1), .I a0_2_0, .S a0_2_1, .L 3 (gJ a0_2_2), .L 4 (jV a0_3), .B a0_4, .B a0_5, .I a0_6_0, .S a0_6_1, .L 3 (gJ a0_6_2), .L 11 (mR a0_7)], .box [.S [], .nilsl], .frz 9 1 v4 (gY b3), .box [.S b7_0, .L 2 (gM b7_1)], .box [.S [], .nilsl], .frz 113 2 0 (gM [(gB.mk x11_0 x11_1), (gB.mk x12_0 x12_1), (gB.mk x13_0 x13_1), (gB.mk x14_0 x14_1), (gB.mk x15_0 x15_1), (gB.mk x16_0 x16_1), (gB.mk b7_0 b7_1)]), .arr 113 2 0 (gM x17_1)]) [] (uF [(gB.mk x11_0 x11_1), (gB.mk x12_0 x12_1), (gB.mk x13_0 x13_1), (gB.mk x14_0 x14_1), (gB.mk x15_0 x15_1), (gB.mk x16_0 x16_1), (gB.mk b7_0 b7_1)] hx17) jS)) ?_
      refine goT ?_
      refine jX ?_
      exact vC 0 [0, 1, 2, 3, 5, 6, 4]
     refine goT ?_
     refine jR (mZ (qR a0_1 hx13) jS) ?_
     refine jR (mZ (gHn 5000 (gD.mk a0_2_0 a0_2_1 a0_2_2) hx14) jS) ?_
     refine jR (mZ (gCs a0_3 hx15) jS) ?_
     refine jR (mZ (qR b3 hx16) jS) ?_
     refine jR (pY (T := 111) (us := gM [(gB.mk x11_0 x11_1), (gB.mk x12_0 x12_1), (gB.mk x13_0 x13_1), (gB.mk x14_0 x14_1), (gB.mk x15_0 x15_1), (gB.mk x16_0 x16_1), (gB.mk b7_0 b7_1)]) jS) ?_
     refine jR (zO 5 rfl rfl (gBy (sv := .ag [.S x17_0, .sl 6 0]) (L' := [.box [.S a0_0, .L 1 (gY a0_1), .I a0_2_0, .S a0_2_1, .L 3 (gJ a0_2_2), .L 4 (jV a0_3), .B a0_4, .B a0_5, .I a0_6_0, .S a0_6_1, .L 3 (gJ a0_6_2), .L 11 (mR a0_7)], .box [.S [], .nilsl], .frz 9 1 v4 (gY b3), .box [.S b7_0, .L 2 (gM b7_1)], .box [.S [], .nilsl], .frz 113 2 0 (gM [(gB.mk x11_0 x11_1), (gB.mk x12_0 x12_1), (gB.mk x13_0 x13_1), (gB.mk x14_0 x14_1), (gB.mk x15_0 x15_1), (gB.mk x16_0 x16_1), (gB.mk b7_0 b7_1)]), .arr 113 2 0 (gM x17_1)]) [] (uF [(gB.mk x11_0 x11_1), (gB.mk x12_0 x12_1), (gB.mk x13_0 x13_1), (gB.mk x14_0 x14_1), (gB.mk x15_0 x15_1), (gB.mk x16_0 x16_1), (gB.mk b7_0 b7_1)] hx17) jS)) ?_
     refine goT ?_
     refine jX ?_
     exact vC 0 [0, 1, 2, 3, 5, 6, 4]
    refine goT ?_
    refine jR (mZ (sx12) jS) ?_
    refine jR (mZ (qR a0_1 hx13) jS) ?_
    refine jR (mZ (gHn 5000 (gD.mk a0_2_0 a0_2_1 a0_2_2) hx14) jS) ?_
    refine jR (mZ (gCs a0_3 hx15) jS) ?_
    refine jR (mZ (qR b3 hx16) jS) ?_
    refine jR (pY (T := 111) (us := gM [(gB.mk x11_0 x11_1), (gB.mk x12_0 x12_1), (gB.mk x13_0 x13_1), (gB.mk x14_0 x14_1), (gB.mk x15_0 x15_1), (gB.mk x16_0 x16_1), (gB.mk b7_0 b7_1)]) jS) ?_
    refine jR (zO 5 rfl rfl (gBy (sv := .ag [.S x17_0, .sl 6 0]) (L' := [.box [.S a0_0, .L 1 (gY a0_1), .I a0_2_0, .S a0_2_1, .L 3 (gJ a0_2_2), .L 4 (jV a0_3), .B a0_4, .B a0_5, .I a0_6_0, .S a0_6_1, .L 3 (gJ a0_6_2), .L 11 (mR a0_7)], .box [.S [], .nilsl], .frz 9 1 v4 (gY b3), .box [.S b7_0, .L 2 (gM b7_1)], .box [.S [], .nilsl], .frz 113 2 0 (gM [(gB.mk x11_0 x11_1), (gB.mk x12_0 x12_1), (gB.mk x13_0 x13_1), (gB.mk x14_0 x14_1), (gB.mk x15_0 x15_1), (gB.mk x16_0 x16_1), (gB.mk b7_0 b7_1)]), .arr 113 2 0 (gM x17_1)]) [] (uF [(gB.mk x11_0 x11_1), (gB.mk x12_0 x12_1), (gB.mk x13_0 x13_1), (gB.mk x14_0 x14_1), (gB.mk x15_0 x15_1), (gB.mk x16_0 x16_1), (gB.mk b7_0 b7_1)] hx17) jS)) ?_
    refine goT ?_
    refine jX ?_
    exact vC 0 [0, 1, 2, 3, 5, 6, 4]
   refine goT ?_
   refine jR (mZ (sx11) jS) ?_
   refine jR (mZ (sx12) jS) ?_
   refine jR (mZ (qR a0_1 hx13) jS) ?_
   refine jR (mZ (gHn 5000 (gD.mk a0_2_0 a0_2_1 a0_2_2) hx14) jS) ?_
   refine jR (mZ (gCs a0_3 hx15) jS) ?_
   refine jR (mZ (qR b3 hx16) jS) ?_
   refine jR (pY (T := 111) (us := gM [(gB.mk x11_0 x11_1), (gB.mk x12_0 x12_1), (gB.mk x13_0 x13_1), (gB.mk x14_0 x14_1), (gB.mk x15_0 x15_1), (gB.mk x16_0 x16_1), (gB.mk b7_0 b7_1)]) jS) ?_
   refine jR (zO 5 rfl rfl (gBy (sv := .ag [.S x17_0, .sl 6 0]) (L' := [.box [.S a0_0, .L 1 (gY a0_1), .I a0_2_0, .S a0_2_1, .L 3 (gJ a0_2_2), .L 4 (jV a0_3), .B a0_4, .B a0_5, .I a0_6_0, .S a0_6_1, .L 3 (gJ a0_6_2), .L 11 (mR a0_7)], .box [.S [], .nilsl], .frz 9 1 v4 (gY b3), .box [.S b7_0, .L 2 (gM b7_1)], .box [.S [], .nilsl], .frz 113 2 0 (gM [(gB.mk x11_0 x11_1), (gB.mk x12_0 x12_1), (gB.mk x13_0 x13_1), (gB.mk x14_0 x14_1), (gB.mk x15_0 x15_1), (gB.mk x16_0 x16_1), (gB.mk b7_0 b7_1)]), .arr 113 2 0 (gM x17_1)]) [] (uF [(gB.mk x11_0 x11_1), (gB.mk x12_0 x12_1), (gB.mk x13_0 x13_1), (gB.mk x14_0 x14_1), (gB.mk x15_0 x15_1), (gB.mk x16_0 x16_1), (gB.mk b7_0 b7_1)] hx17) jS)) ?_
   refine goT ?_
   refine jX ?_
   exact vC 0 [0, 1, 2, 3, 5, 6, 4]
  refine goL ?_
  refine noB ?_
  refine vJ 0 11 (fun z21 => ?_)
  refine kQ (fun (y20 : Nat) (y18 : List gB) (v19 : Nat) => ⟨[(1, .ptr 0 0), (2, .ptr 1 0), (5, .ptr 6 0), (6, .N y20)], [.box [.S a0_0, .L 1 (gY a0_1), .I a0_2_0, .S a0_2_1, .L 3 (gJ a0_2_2), .L 4 (jV a0_3), .B a0_4, .B a0_5, .I a0_6_0, .S a0_6_1, .L 3 (gJ a0_6_2), .L 11 (mR a0_7)], .box [.S [], .nilsl], .frz 9 1 v4 (gY b3), .box [.S b7_0, .L 2 (gM b7_1)], .frz 113 2 0 (gM [(gB.mk x11_0 x11_1), (gB.mk x12_0 x12_1), (gB.mk x13_0 x13_1), (gB.mk x14_0 x14_1), (gB.mk x15_0 x15_1), (gB.mk x16_0 x16_1), (gB.mk b7_0 b7_1)]), .arr 113 2 v19 (gM y18), .box [.S x17_0, .sl 5 v19]], Tryz.f111.ntmps⟩) (fun y20 y18 v19 => uP (gB.mk x17_0 x17_1) (a0_7.drop y20) y18 = some r) (fun y20 y18 v19 => a0_7.length - y20) 0 x17_1 0 eJ h ?_
  rintro y20 y18 v19 h
  refine goL ?_
  refine mF (fun c22 => ?_) (fun c22 => ?_)
  ·have hky202 := vO c22
   obtain ⟨x23, hx23, hdx23⟩ := drop_at hky202
   rw [hdx23, uP.eq_2] at h
   obtain ⟨x23_0, x23_1, ⟨x23_2_0, x23_2_1, x23_2_2, x23_2_3, ⟨x23_2_4_0, x23_2_4_1, x23_2_4_2⟩, x23_2_5, x23_2_6⟩⟩ := x23
   refine noS ?_
   refine kD (jC ?_)
   refine goL ?_
   refine qQ (jJ y20 (gX7 hx23)) ?_
   refine gIx ?_
   refine vH (P := Tryz.prog) Mix.h [(0, true), (1, true), (2, true), (3, true), (5, true), (6, true), (8, true), (9, true), (4, false), (7, false), (10, false), (11, false), (12, false), (13, false), (14, false), (15, true), (16, false)] (by kernel_rfl) ?_
   refine goY ?_
   obtain ⟨⟨x24_0, x24_1⟩, hx24, h⟩ := qU h
   have sx24 := mE x23_0
   rw [hx24] at sx24
   refine mZ (sx24) ?_
   obtain ⟨⟨x25_0, x25_1⟩, hx25, h⟩ := gK h
   refine mZ (qR x23_1 hx25) ?_
   obtain ⟨⟨x26_0, x26_1⟩, hx26, h⟩ := gK h
   refine mZ (gSr 5000 (jO.mk x23_2_0 x23_2_1 x23_2_2 x23_2_3 (gD.mk x23_2_4_0 x23_2_4_1 x23_2_4_2) x23_2_5 x23_2_6) hx26) ?_
   refine pY (T := 111) (us := gM [(gB.mk x24_0 x24_1), (gB.mk x25_0 x25_1), (gB.mk x26_0 x26_1)]) ?_
   refine zO 8 rfl rfl ?_
   obtain ⟨⟨x27_0, x27_1⟩, hx27, h⟩ := gK h
   refine mZ (gI1 [(gB.mk x24_0 x24_1), (gB.mk x25_0 x25_1), (gB.mk x26_0 x26_1)] hx27) ?_
   refine pY (T := 111) (us := gM [(gB.mk x27_0 x27_1)]) ?_
   obtain ⟨g28, h⟩ := pF h
   refine pV (T := 111) g28 ?_
   refine goY ?_
   refine kP ?_
   refine goL ?_
   refine jH (jT y20 (by omega)) ?_
   exact ⟨(y20 + 1), (y18 ++ [(gB.mk x27_0 x27_1)]), (v19 + 1), h, by omega, eJ⟩
  ·have hky202 := vP c22
   rw [jE hky202, uP.eq_1] at h
   refine goX ?_
   refine vL 5 rfl rfl ?_
   refine gYq ?_
   obtain ⟨⟨x29_0, x29_1⟩, hx29, h⟩ := gK h
   refine gBm (gX3 (gPd true (gB.mk x17_0 y18) hx29)) ?_
   exact goR h
def uQ (a0 : kZ) : List gFd → (List gB) → Option (gB)
 | [], y3 => lt_ (kU [102, 110]) fun x13 =>
lt_ (kU a0.name) fun x14 =>
bnd (zR a0.vars) fun x15 =>
bnd (gIs a0.where_) fun x16 =>
bnd (gJb 5000 a0.result) fun x17 =>
bnd (gJk 5000 a0.body) fun x18 =>
bnd (gF7 [x13, x14, x15, x16, (gB.mk [] y3), x17, x18]) fun x19 =>
bnd (gKz true x19) fun x20 =>
(some x20)
 | x8 :: xs, y3 => lt_ (kU x8.name) fun x9 =>
bnd (gJb 5000 x8.type_) fun x10 =>
bnd (gF7 [x9, x10]) fun x11 =>
gd (y3.length + [x11].length ≤ 4294967296) (
uQ a0 xs (y3 ++ [x11]))
def gB8 (a0 : kZ) : Option (gB) :=
bnd (zZ a0) fun x1 =>
(cnd (!x1) (
(some (gB.mk [] []))) (
uQ a0 a0.params []))
theorem gJ3 (a0 : kZ) {r : gB} (h : gB8 a0 = some r) : jB Tryz.prog 112 [.d (gDt a0)] [mD r] := by
 obtain ⟨a0_0, a0_1, a0_2, a0_3, ⟨a0_4_0, a0_4_1, a0_4_2⟩, ⟨a0_5_0, a0_5_1, a0_5_2, a0_5_3, ⟨a0_5_4_0, a0_5_4_1, a0_5_4_2⟩, a0_5_5, a0_5_6⟩⟩ := a0
 unfold gB8 at h
 refine SpI Tryz.func112 fun A _ => ?_
 refine goL ?_
 obtain ⟨x1, hx1, h⟩ := gK h
 refine jH (gF (gFw (kZ.mk a0_0 a0_1 a0_2 a0_3 (gD.mk a0_4_0 a0_4_1 a0_4_2) (jO.mk a0_5_0 a0_5_1 a0_5_2 a0_5_3 (gD.mk a0_5_4_0 a0_5_4_1 a0_5_4_2) a0_5_5 a0_5_6)) hx1)) ?_
 refine mF (fun c2 => ?_) (fun c2 => ?_)
 ·replace h := gW c2 h
  refine goL ?_
  refine gBm (kE TBd.h TZ.h rfl (by repeat constructor)) ?_
  exact goR h
 ·replace h := gX c2 h
  refine goS ?_
  refine gFj (kE TBd.h TZ.h rfl (by repeat constructor)) ?_
  refine noB ?_
  refine yF 113 2 2 1 rfl rfl (by repeat constructor) (by repeat constructor) (by repeat constructor) (by repeat constructor) ?_
  show V _ _ _ _ _
  refine vJ 0 3 (fun z6 => ?_)
  refine kQ (fun (y5 : Nat) (y3 : List gB) (v4 : Nat) => ⟨[(1, .ptr 0 0), (2, .ptr 1 0), (3, .ptr 2 0), (4, .N y5)], [.box [.S a0_0, .L 1 (gY a0_1), .L 4 (jV a0_2), .L 4 (gFe a0_3), .I a0_4_0, .S a0_4_1, .L 3 (gJ a0_4_2), .I a0_5_0, .S a0_5_1, .S a0_5_2, .I a0_5_3, .I a0_5_4_0, .S a0_5_4_1, .L 3 (gJ a0_5_4_2), .L 9 (kM a0_5_5), .L 11 (qD a0_5_6)], .box [.S [], .nilsl], .box [.S [], .sl 3 v4], .arr 113 2 v4 (gM y3)], Tryz.f112.ntmps⟩) (fun y5 y3 v4 => uQ (kZ.mk a0_0 a0_1 a0_2 a0_3 (gD.mk a0_4_0 a0_4_1 a0_4_2) (jO.mk a0_5_0 a0_5_1 a0_5_2 a0_5_3 (gD.mk a0_5_4_0 a0_5_4_1 a0_5_4_2) a0_5_5 a0_5_6)) (a0_3.drop y5) y3 = some r) (fun y5 y3 v4 => a0_3.length - y5) 0 [] 0 eJ h ?_
  rintro y5 y3 v4 h
  refine goL ?_
  refine mF (fun c7 => ?_) (fun c7 => ?_)
  ·have hky52 := vO c7
   obtain ⟨x8, hx8, hdx8⟩ := drop_at hky52
   rw [hdx8, uQ.eq_2] at h
   obtain ⟨x8_0, ⟨x8_1_0, x8_1_1, x8_1_2⟩⟩ := x8
   refine noS ?_
   refine kD (jC ?_)
   refine vH (P := Tryz.prog) Mix.h [(0, true), (1, true), (2, true), (3, true), (4, true), (5, true), (6, true), (7, true), (9, true), (10, true), (11, true), (12, true), (13, true), (14, true), (8, false), (15, false), (16, false), (17, false), (18, false), (19, false), (20, true), (21, false)] (by kernel_rfl) ?_
   refine goY ?_
   refine jD rfl (jJ y5 (gUh hx8)) ?_
   refine goY ?_
   refine jD rfl (jJ y5 (gUh hx8)) ?_
   refine goY ?_
   obtain ⟨⟨x9_0, x9_1⟩, hx9, h⟩ := qU h
   have sx9 := mE x8_0
   rw [hx9] at sx9
   refine mZ (sx9) ?_
   obtain ⟨⟨x10_0, x10_1⟩, hx10, h⟩ := gK h
   refine mZ (gHn 5000 (gD.mk x8_1_0 x8_1_1 x8_1_2) hx10) ?_
   refine pY (T := 111) (us := gM [(gB.mk x9_0 x9_1), (gB.mk x10_0 x10_1)]) ?_
   refine zO 4 rfl rfl ?_
   obtain ⟨⟨x11_0, x11_1⟩, hx11, h⟩ := gK h
   refine mZ (gI1 [(gB.mk x9_0 x9_1), (gB.mk x10_0 x10_1)] hx11) ?_
   refine pY (T := 111) (us := gM [(gB.mk x11_0 x11_1)]) ?_
   obtain ⟨g12, h⟩ := pF h
   refine pV (T := 111) g12 ?_
   refine goY ?_
   refine kP ?_
   refine goL ?_
   refine jH (jT y5 (by omega)) ?_
   exact ⟨(y5 + 1), (y3 ++ [(gB.mk x11_0 x11_1)]), (v4 + 1), h, by omega, eJ⟩
  ·have hky52 := vP c7
   rw [jE hky52, uQ.eq_1] at h
   refine noX ?_
   refine kI 3 rfl rfl ?_
   refine hHt ?_
   refine jL (P := Tryz.prog) Mix.h [(1, true), (2, true), (4, true), (5, true), (7, true), (8, true), (10, true), (11, true), (12, true), (14, true), (15, true), (0, false), (3, false), (6, false), (9, false), (13, false), (16, false), (17, false), (18, false), (19, false), (20, false)] (by kernel_rfl) ?_
   refine goY ?_
   obtain ⟨⟨x13_0, x13_1⟩, hx13, h⟩ := qU h
   have sx13 := mE [102, 110]
   rw [hx13] at sx13
   refine mZ (sx13) ?_
   obtain ⟨⟨x14_0, x14_1⟩, hx14, h⟩ := qU h
   have sx14 := mE a0_0
   rw [hx14] at sx14
   refine mZ (sx14) ?_
   obtain ⟨⟨x15_0, x15_1⟩, hx15, h⟩ := gK h
   refine mZ (qR a0_1 hx15) ?_
   obtain ⟨⟨x16_0, x16_1⟩, hx16, h⟩ := gK h
   refine mZ (gCs a0_2 hx16) ?_
   obtain ⟨⟨x17_0, x17_1⟩, hx17, h⟩ := gK h
   refine mZ (gHn 5000 (gD.mk a0_4_0 a0_4_1 a0_4_2) hx17) ?_
   obtain ⟨⟨x18_0, x18_1⟩, hx18, h⟩ := gK h
   refine mZ (gSr 5000 (jO.mk a0_5_0 a0_5_1 a0_5_2 a0_5_3 (gD.mk a0_5_4_0 a0_5_4_1 a0_5_4_2) a0_5_5 a0_5_6) hx18) ?_
   refine pY (T := 111) (us := gM [(gB.mk x13_0 x13_1), (gB.mk x14_0 x14_1), (gB.mk x15_0 x15_1), (gB.mk x16_0 x16_1), (gB.mk [] y3), (gB.mk x17_0 x17_1), (gB.mk x18_0 x18_1)]) ?_
   refine zO 4 rfl rfl ?_
   obtain ⟨⟨x19_0, x19_1⟩, hx19, h⟩ := gK h
   refine mZ (gI1 [(gB.mk x13_0 x13_1), (gB.mk x14_0 x14_1), (gB.mk x15_0 x15_1), (gB.mk x16_0 x16_1), (gB.mk [] y3), (gB.mk x17_0 x17_1), (gB.mk x18_0 x18_1)] hx19) ?_
   obtain ⟨⟨x20_0, x20_1⟩, hx20, h⟩ := gK h
   refine mZ (gPd true (gB.mk x19_0 x19_1) hx20) ?_
   refine goY ?_
   refine kP ?_
   exact goR h
end Go.Proofs.YtfaplndgbgoaaaaGreat
