import Derived.Test.YtfaplndgbgoaaaaGreatEng38
import Derived.Test.YtfaplndgbgoaaaaGreatEng67
import Derived.Test.YtfaplndgbgoaaaaGreatVr
import Derived.Test.YtfaplndgbgoaaaaGreatSfi0
import Derived.Test.YtfaplndgbgoaaaaGreatB2
import Derived.Test.YtfaplndgbgoaaaaGreatB3
import Derived.Test.YtfaplndgbgoaaaaGreatB5
import Derived.Test.YtfaplndgbgoaaaaGreatB6
import Derived.Test.YtfaplndgbgoaaaaGreatB7
import Derived.Test.YtfaplndgbgoaaaaGreatB11
import Derived.Test.YtfaplndgbgoaaaaGreatB13
set_option maxHeartbeats 4000000
set_option linter.unusedVariables false
set_option linter.unusedSimpArgs false
set_option linter.unusedSectionVars false
namespace Go.Proofs.YtfaplndgbgoaaaaGreat
open Go Go.Eng
attribute [local irreducible] V VO VQ VY Quiet QR jB kR Rng uX vB qY
def zR (a0 : List (List UInt8)) : Option (gB) :=
bnd (gKb a0) fun x1 =>
(some (gB.mk [] x1))
theorem qR (a0 : List (List UInt8)) {r : gB} (h : zR a0 = some r) : jB Tryz.prog 132 [.L 1 (gY a0)] [mD r] := by
 unfold zR at h
 refine SpI Tryz.func132 fun A _ => ?_
 refine goL ?_
 obtain ⟨x1, hx1, h⟩ := gK h
 refine qQ (gF (gQ7 a0 hx1)) ?_
 refine gBm (kE TBd.h TZ.h rfl (by repeat constructor)) ?_
 exact goR h
def gB2 : List gD → (List gB) → Option (List gB)
 | [], y1 => (some y1)
 | x6 :: xs, y1 => bnd (gJb 5000 x6) fun x7 =>
gd (y1.length + [x7].length ≤ 4294967296) (
gB2 xs (y1 ++ [x7]))
def gIr (a0 : List gD) : Option (List gB) :=
gB2 a0 []
theorem gOs (a0 : List gD) {r : List gB} (h : gIr a0 = some r) : jB Tryz.prog 133 [.L 3 (gJ a0)] [.sl 2 (gM r)] := by
 unfold gIr at h
 refine SpI Tryz.func133 fun A _ => ?_
 refine goL ?_
 refine gAc ?_
 refine goL ?_
 refine noB ?_
 refine gEk 0 (fun z4 => ?_)
 refine kQ (fun (y3 : Nat) (y1 : List gB) (v2 : Nat) => ⟨[(0, .L 3 (gJ a0)), (3, .sl 0 v2), (4, .N y3)], [.arr 113 2 v2 (gM y1)], Tryz.f133.ntmps⟩) (fun y3 y1 v2 => gB2 (a0.drop y3) y1 = some r) (fun y3 y1 v2 => a0.length - y3) 0 [] 0 eJ h ?_
 rintro y3 y1 v2 h
 refine goL ?_
 refine mF (fun c5 => ?_) (fun c5 => ?_)
 ·have hky32 := vO c5
  obtain ⟨x6, hx6, hdx6⟩ := drop_at hky32
  rw [hdx6, gB2.eq_2] at h
  obtain ⟨x6_0, x6_1, x6_2⟩ := x6
  refine noS ?_
  refine kD (jC ?_)
  refine goL ?_
  refine jH (jJ y3 (gA5 hx6)) ?_
  obtain ⟨⟨x7_0, x7_1⟩, hx7, h⟩ := gK h
  refine qQ (gF (gHn 5000 (gD.mk x6_0 x6_1 x6_2) hx7)) ?_
  refine gBc (u := (.st [.s x7_0, .sl 2 (gM x7_1)])) ?_
  obtain ⟨g8, h⟩ := pF h
  refine gBu g8 ?_
  refine goL ?_
  refine jH (jT y3 (by omega)) ?_
  exact ⟨(y3 + 1), (y1 ++ [(gB.mk x7_0 x7_1)]), (v2 + 1), h, by omega, eJ⟩
 ·have hky32 := vP c5
  rw [jE hky32, gB2.eq_1] at h
  refine goX ?_
  refine kI 0 rfl rfl ?_
  refine jN ?_
  cases h
  exact qH
def gDf (rec_l12Sx : jO → Option (gB)) : List jO → (List gB) → Option (List UInt8 × List gB)
 | [], y1 => (some ([], y1))
 | x6 :: xs, y1 => bnd (rec_l12Sx x6) fun x7 =>
gd (y1.length + [x7].length ≤ 4294967296) (
gDf rec_l12Sx xs (y1 ++ [x7]))
def gMm (rec_l12Args : (List gB) → (List jO) → Option (List UInt8 × List gB)) (rec_l12Sx : jO → Option (gB)) (l0 : List gB) (list : List jO) : Option (List UInt8 × List gB) :=
gDf rec_l12Sx list l0
theorem gWu {rec_l12Args : (List gB) → (List jO) → Option (List UInt8 × List gB)} {rec_l12Sx : jO → Option (gB)} (hrec_l12Args : ∀ (x0 : List gB) (x1 : List jO) (w0 : Nat) {r : List UInt8 × List gB}, rec_l12Args x0 x1 = some r → Go.Eng.Spec Tryz.prog 155 [.sl 0 w0, .L 9 (kM x1)] [.arr 113 2 w0 (gM x0)] (fun sv Lo => sv = .ag [.S r.1, .sl 0 (w0 + 1)] ∧ Lo = [.arr 113 2 (w0 + 1) (gM r.2)])) (hrec_l12Sx : ∀ (x0 : jO) {r : gB}, rec_l12Sx x0 = some r → jB Tryz.prog 135 [.d (yO x0)] [mD r]) (l0 : List gB) (list : List jO) (v0 : Nat) {r : List UInt8 × List gB} (h : gMm rec_l12Args rec_l12Sx l0 list = some r) : Go.Eng.Spec Tryz.prog 155 [.sl 0 v0, .L 9 (kM list)] [.arr 113 2 v0 (gM l0)] (fun sv Lo => sv = .ag [.S r.1, .sl 0 (v0 + 1)] ∧ Lo = [.arr 113 2 (v0 + 1) (gM r.2)]) := by
 unfold gMm at h
 refine Spec.verF (g := fun v' => .ag [.S r.1, .sl 0 v']) ?_ (fun _ _ _ _ _ hh => hHr hh)
 refine kY 1 Tryz.func155 rfl (by kernel_rfl) rfl rfl fun A _ => ?_
 refine goL ?_
 refine gFj (kE TBd.h TZ.h rfl (by repeat constructor)) ?_
 refine noB ?_
 refine gEk 1 (fun z4 => ?_)
 refine kQ (fun (y3 : Nat) (y1 : List gB) (v2 : Nat) => ⟨[(1, .L 9 (kM list)), (4, .ptr 1 0), (5, .ptr 2 0), (6, .N y3)], [.arr 113 2 v2 (gM y1), .box [.S [], .nilsl], .box [.S [], .sl 0 v2]], Tryz.f155.ntmps⟩) (fun y3 y1 v2 => gDf rec_l12Sx (list.drop y3) y1 = some r) (fun y3 y1 v2 => list.length - y3) 0 l0 v0 eJ h ?_
 rintro y3 y1 v2 h
 refine goL ?_
 refine mF (fun c5 => ?_) (fun c5 => ?_)
 ·have hky32 := vO c5
  obtain ⟨x6, hx6, hdx6⟩ := drop_at hky32
  rw [hdx6, gDf.eq_2] at h
  obtain ⟨x6_0, x6_1, x6_2, x6_3, ⟨x6_4_0, x6_4_1, x6_4_2⟩, x6_5, x6_6⟩ := x6
  refine noS ?_
  refine kD (jC ?_)
  refine vH (P := Tryz.prog) Mix.h [(0, true), (1, true), (2, true), (3, true), (4, true), (5, true), (6, true), (7, false), (8, false), (9, true), (10, false)] (by kernel_rfl) ?_
  refine goY ?_
  refine jD rfl (jJ y3 (gS5 hx6)) ?_
  refine goY ?_
  obtain ⟨⟨x7_0, x7_1⟩, hx7, h⟩ := gK h
  refine jD rfl (gF (hrec_l12Sx (jO.mk x6_0 x6_1 x6_2 x6_3 (gD.mk x6_4_0 x6_4_1 x6_4_2) x6_5 x6_6) hx7)) ?_
  refine pY (T := 111) (us := gM [(gB.mk x7_0 x7_1)]) ?_
  obtain ⟨g8, h⟩ := pF h
  refine pV (T := 111) g8 ?_
  refine goY ?_
  refine kP ?_
  refine goL ?_
  refine jH (jT y3 (by omega)) ?_
  exact ⟨(y3 + 1), (y1 ++ [(gB.mk x7_0 x7_1)]), (v2 + 1), h, by omega, eJ⟩
 ·have hky32 := vP c5
  rw [jE hky32, gDf.eq_1] at h
  refine goX ?_
  refine jN ?_
  obtain rfl := Option.some.inj h
  exact gEl [.ag [.S [], .sl 0 v2]] [.arr 113 2 v2 (gM y1)] ⟨v2, rfl, rfl⟩
def gGg (rec_l12Sx : jO → Option (gB)) (x41 : List UInt8 × List gB) : List gJq → (List gB) → Option (gB)
 | [], y42 => (some (gB.mk x41.1 y42))
 | x47 :: xs, y42 => lt_ (kU x47.constructor) fun x48 =>
bnd (gKb x47.vars) fun x49 =>
gd ([x48].length + x49.length ≤ 4294967296) (
bnd (rec_l12Sx x47.body) fun x51 =>
gd (([x48] ++ x49).length + [x51].length ≤ 4294967296) (
gd (y42.length + [(gB.mk [] (([x48] ++ x49) ++ [x51]))].length ≤ 4294967296) (
gGg rec_l12Sx x41 xs (y42 ++ [(gB.mk [] (([x48] ++ x49) ++ [x51]))]))))
def gSq (rec_l12Args : (List gB) → (List jO) → Option (List UInt8 × List gB)) (rec_l12Sx : jO → Option (gB)) (a0 : jO) : Option (gB) :=
(cnd (a0.kind == 1) (
gd (gD5 a0.n) (lt_ (kU (Lib.itoa a0.n)) fun x3 =>
(some x3))) (
(cnd (a0.kind == 2) (
bnd (at? [[102, 97, 108, 115, 101], [116, 114, 117, 101]] a0.n) fun x5 =>
lt_ (kU x5) fun x6 =>
(some x6)) (
(cnd (a0.kind == 3) (
lt_ (kU a0.name) fun x8 =>
(some x8)) (
(cnd (a0.kind == 4) (
lt_ (kU [99, 97, 108, 108]) fun x10 =>
lt_ (kU a0.name) fun x11 =>
bnd (rec_l12Args [x10, x11] a0.args) fun x12 =>
(some (gB.mk x12.1 x12.2))) (
(cnd (a0.kind == 5) (
lt_ (kU [109, 101, 116, 104, 111, 100]) fun x14 =>
lt_ (kU a0.trait) fun x15 =>
lt_ (kU a0.name) fun x16 =>
bnd (rec_l12Args [x14, x15, x16] a0.args) fun x17 =>
(some (gB.mk x17.1 x17.2))) (
(cnd (a0.kind == 6) (
lt_ (kU [110, 101, 119]) fun x19 =>
lt_ (kU a0.name) fun x20 =>
bnd (rec_l12Args [x19, x20] a0.args) fun x21 =>
(some (gB.mk x21.1 x21.2))) (
(cnd (a0.kind == 8) (
lt_ (kU [108, 101, 116]) fun x23 =>
lt_ (kU a0.name) fun x24 =>
bnd (rec_l12Args [x23, x24] a0.args) fun x25 =>
(some (gB.mk x25.1 x25.2))) (
(cnd (a0.kind == 9) (
lt_ (kU [105, 102]) fun x27 =>
bnd (rec_l12Args [x27] a0.args) fun x28 =>
(some (gB.mk x28.1 x28.2))) (
(cnd (a0.kind == 10) (
lt_ (kU a0.name) fun x30 =>
bnd (rec_l12Args [x30] a0.args) fun x31 =>
(some (gB.mk x31.1 x31.2))) (
(cnd (a0.kind == 11) (
lt_ (kU [112, 97, 99, 107]) fun x33 =>
lt_ (kU a0.trait) fun x34 =>
bnd (rec_l12Args [x33, x34] a0.args) fun x35 =>
(some (gB.mk x35.1 x35.2))) (
(cnd (a0.kind == 12) (
lt_ (kU [116, 104, 101]) fun x37 =>
bnd (gJb 5000 a0.type_) fun x38 =>
bnd (rec_l12Args [x37, x38] a0.args) fun x39 =>
(some (gB.mk x39.1 x39.2))) (
lt_ (kU [99, 97, 115, 101]) fun x40 =>
bnd (rec_l12Args [x40] a0.args) fun x41 =>
gGg rec_l12Sx x41 a0.arms x41.2))))))))))))))))))))))
theorem hDz {rec_l12Args : (List gB) → (List jO) → Option (List UInt8 × List gB)} {rec_l12Sx : jO → Option (gB)} (hrec_l12Args : ∀ (x0 : List gB) (x1 : List jO) (w0 : Nat) {r : List UInt8 × List gB}, rec_l12Args x0 x1 = some r → Go.Eng.Spec Tryz.prog 155 [.sl 0 w0, .L 9 (kM x1)] [.arr 113 2 w0 (gM x0)] (fun sv Lo => sv = .ag [.S r.1, .sl 0 (w0 + 1)] ∧ Lo = [.arr 113 2 (w0 + 1) (gM r.2)])) (hrec_l12Sx : ∀ (x0 : jO) {r : gB}, rec_l12Sx x0 = some r → jB Tryz.prog 135 [.d (yO x0)] [mD r]) (a0 : jO) {r : gB} (h : gSq rec_l12Args rec_l12Sx a0 = some r) : jB Tryz.prog 135 [.d (yO a0)] [mD r] := by
 obtain ⟨a0_0, a0_1, a0_2, a0_3, ⟨a0_4_0, a0_4_1, a0_4_2⟩, a0_5, a0_6⟩ := a0
 unfold gSq at h
 refine SpI Tryz.func135 fun A _ => ?_
 refine goL ?_
 refine jC ?_
 refine goC h ?_ ?_<;>intro c1 h
 ·refine goL ?_
  obtain ⟨g2, h⟩ := pF h
  refine qQ (gF (gIi a0_3 g2)) ?_
  obtain ⟨⟨x3_0, x3_1⟩, hx3, h⟩ := qU h
  have sx3 := mE (Lib.itoa a0_3)
  rw [hx3] at sx3
  refine qQ (gF (sx3)) ?_
  exact goR h
 ·refine goC h ?_ ?_<;>intro c4 h
  ·refine goL ?_
   refine gNn (us := gY [[102, 97, 108, 115, 101], [116, 114, 117, 101]]) ?_
   refine goL ?_
   obtain ⟨x5, hx5, h⟩ := gK h
   obtain ⟨hx50, hx5⟩ := gD9 hx5
   refine gBm (hHp hx50 (List.getElem?_eq_some_iff.1 hx5).1) ?_
   refine gBm (hO6 hx5) ?_
   obtain ⟨⟨x6_0, x6_1⟩, hx6, h⟩ := qU h
   have sx6 := mE x5
   rw [hx6] at sx6
   refine qQ (gF (sx6)) ?_
   exact goR h
  ·refine goC h ?_ ?_<;>intro c7 h
   ·refine goL ?_
    obtain ⟨⟨x8_0, x8_1⟩, hx8, h⟩ := qU h
    have sx8 := mE a0_2
    rw [hx8] at sx8
    refine qQ (gF (sx8)) ?_
    exact goR h
   ·refine goC h ?_ ?_<;>intro c9 h
    ·refine jL (P := Tryz.prog) Mix.h [(0, true), (1, true), (2, true), (3, true), (5, true), (6, true), (4, false), (7, false), (8, false)] (by kernel_rfl) ?_
     obtain ⟨⟨x10_0, x10_1⟩, hx10, h⟩ := qU h
     have sx10 := mE [99, 97, 108, 108]
     rw [hx10] at sx10
     refine jD rfl (gF (sx10)) ?_
     refine goY ?_
     obtain ⟨⟨x11_0, x11_1⟩, hx11, h⟩ := qU h
     have sx11 := mE a0_2
     rw [hx11] at sx11
     refine jD rfl (gF (sx11)) ?_
     refine goY ?_
     refine pY (T := 111) (us := gM [(gB.mk x10_0 x10_1), (gB.mk x11_0 x11_1)]) ?_
     obtain ⟨⟨x12_0, x12_1⟩, hx12, h⟩ := gK h
     refine gBy (sv := .ag [.S x12_0, .sl 2 (0 + 1)]) (L' := [.box [.I a0_0, .S a0_1, .S a0_2, .I a0_3, .I a0_4_0, .S a0_4_1, .L 3 (gJ a0_4_2), .L 9 (kM a0_5), .L 11 (qD a0_6)], .box [.S [], .nilsl], .arr 113 2 (0 + 1) (gM x12_1)]) [2] (hrec_l12Args [(gB.mk x10_0 x10_1), (gB.mk x11_0 x11_1)] a0_5 0 hx12) ?_
     refine goY ?_
     refine kP ?_
     refine goL ?_
     refine kI 2 rfl rfl ?_
     refine jN ?_
     cases h
     exact qH
    ·refine goC h ?_ ?_<;>intro c13 h
     ·refine jL (P := Tryz.prog) Mix.h [(0, true), (1, true), (2, true), (3, true), (4, true), (5, true), (6, true), (8, true), (9, true), (7, false), (10, false), (11, false)] (by kernel_rfl) ?_
      obtain ⟨⟨x14_0, x14_1⟩, hx14, h⟩ := qU h
      have sx14 := mE [109, 101, 116, 104, 111, 100]
      rw [hx14] at sx14
      refine jD rfl (gF (sx14)) ?_
      refine goY ?_
      obtain ⟨⟨x15_0, x15_1⟩, hx15, h⟩ := qU h
      have sx15 := mE a0_1
      rw [hx15] at sx15
      refine jD rfl (gF (sx15)) ?_
      refine goY ?_
      obtain ⟨⟨x16_0, x16_1⟩, hx16, h⟩ := qU h
      have sx16 := mE a0_2
      rw [hx16] at sx16
      refine jD rfl (gF (sx16)) ?_
      refine goY ?_
      refine pY (T := 111) (us := gM [(gB.mk x14_0 x14_1), (gB.mk x15_0 x15_1), (gB.mk x16_0 x16_1)]) ?_
      obtain ⟨⟨x17_0, x17_1⟩, hx17, h⟩ := gK h
      refine gBy (sv := .ag [.S x17_0, .sl 2 (0 + 1)]) (L' := [.box [.I a0_0, .S a0_1, .S a0_2, .I a0_3, .I a0_4_0, .S a0_4_1, .L 3 (gJ a0_4_2), .L 9 (kM a0_5), .L 11 (qD a0_6)], .box [.S [], .nilsl], .arr 113 2 (0 + 1) (gM x17_1)]) [2] (hrec_l12Args [(gB.mk x14_0 x14_1), (gB.mk x15_0 x15_1), (gB.mk x16_0 x16_1)] a0_5 0 hx17) ?_
      refine goY ?_
      refine kP ?_
      refine goL ?_
      refine kI 2 rfl rfl ?_
      refine jN ?_
      cases h
      exact qH
     ·refine goC h ?_ ?_<;>intro c18 h
      ·refine jL (P := Tryz.prog) Mix.h [(0, true), (1, true), (2, true), (3, true), (5, true), (6, true), (4, false), (7, false), (8, false)] (by kernel_rfl) ?_
       obtain ⟨⟨x19_0, x19_1⟩, hx19, h⟩ := qU h
       have sx19 := mE [110, 101, 119]
       rw [hx19] at sx19
       refine jD rfl (gF (sx19)) ?_
       refine goY ?_
       obtain ⟨⟨x20_0, x20_1⟩, hx20, h⟩ := qU h
       have sx20 := mE a0_2
       rw [hx20] at sx20
       refine jD rfl (gF (sx20)) ?_
       refine goY ?_
       refine pY (T := 111) (us := gM [(gB.mk x19_0 x19_1), (gB.mk x20_0 x20_1)]) ?_
       obtain ⟨⟨x21_0, x21_1⟩, hx21, h⟩ := gK h
       refine gBy (sv := .ag [.S x21_0, .sl 2 (0 + 1)]) (L' := [.box [.I a0_0, .S a0_1, .S a0_2, .I a0_3, .I a0_4_0, .S a0_4_1, .L 3 (gJ a0_4_2), .L 9 (kM a0_5), .L 11 (qD a0_6)], .box [.S [], .nilsl], .arr 113 2 (0 + 1) (gM x21_1)]) [2] (hrec_l12Args [(gB.mk x19_0 x19_1), (gB.mk x20_0 x20_1)] a0_5 0 hx21) ?_
       refine goY ?_
       refine kP ?_
       refine goL ?_
       refine kI 2 rfl rfl ?_
       refine jN ?_
       cases h
       exact qH
      ·refine goC h ?_ ?_<;>intro c22 h
       ·refine jL (P := Tryz.prog) Mix.h [(0, true), (1, true), (2, true), (3, true), (5, true), (6, true), (4, false), (7, false), (8, false)] (by kernel_rfl) ?_
        obtain ⟨⟨x23_0, x23_1⟩, hx23, h⟩ := qU h
        have sx23 := mE [108, 101, 116]
        rw [hx23] at sx23
        refine jD rfl (gF (sx23)) ?_
        refine goY ?_
        obtain ⟨⟨x24_0, x24_1⟩, hx24, h⟩ := qU h
        have sx24 := mE a0_2
        rw [hx24] at sx24
        refine jD rfl (gF (sx24)) ?_
        refine goY ?_
        refine pY (T := 111) (us := gM [(gB.mk x23_0 x23_1), (gB.mk x24_0 x24_1)]) ?_
        obtain ⟨⟨x25_0, x25_1⟩, hx25, h⟩ := gK h
        refine gBy (sv := .ag [.S x25_0, .sl 2 (0 + 1)]) (L' := [.box [.I a0_0, .S a0_1, .S a0_2, .I a0_3, .I a0_4_0, .S a0_4_1, .L 3 (gJ a0_4_2), .L 9 (kM a0_5), .L 11 (qD a0_6)], .box [.S [], .nilsl], .arr 113 2 (0 + 1) (gM x25_1)]) [2] (hrec_l12Args [(gB.mk x23_0 x23_1), (gB.mk x24_0 x24_1)] a0_5 0 hx25) ?_
        refine goY ?_
        refine kP ?_
        refine goL ?_
        refine kI 2 rfl rfl ?_
        refine jN ?_
        cases h
        exact qH
       ·refine goC h ?_ ?_<;>intro c26 h
        ·refine jL (P := Tryz.prog) Mix.h [(0, true), (2, true), (3, true), (1, false), (4, false), (5, false)] (by kernel_rfl) ?_
         obtain ⟨⟨x27_0, x27_1⟩, hx27, h⟩ := qU h
         have sx27 := mE [105, 102]
         rw [hx27] at sx27
         refine jD rfl (gF (sx27)) ?_
         refine goY ?_
         refine pY (T := 111) (us := gM [(gB.mk x27_0 x27_1)]) ?_
         obtain ⟨⟨x28_0, x28_1⟩, hx28, h⟩ := gK h
         refine gBy (sv := .ag [.S x28_0, .sl 2 (0 + 1)]) (L' := [.box [.I a0_0, .S a0_1, .S a0_2, .I a0_3, .I a0_4_0, .S a0_4_1, .L 3 (gJ a0_4_2), .L 9 (kM a0_5), .L 11 (qD a0_6)], .box [.S [], .nilsl], .arr 113 2 (0 + 1) (gM x28_1)]) [2] (hrec_l12Args [(gB.mk x27_0 x27_1)] a0_5 0 hx28) ?_
         refine goY ?_
         refine kP ?_
         refine goL ?_
         refine kI 2 rfl rfl ?_
         refine jN ?_
         cases h
         exact qH
        ·refine goC h ?_ ?_<;>intro c29 h
         ·refine jL (P := Tryz.prog) Mix.h [(0, true), (1, true), (2, true), (4, true), (5, true), (3, false), (6, false), (7, false)] (by kernel_rfl) ?_
          refine goY ?_
          obtain ⟨⟨x30_0, x30_1⟩, hx30, h⟩ := qU h
          have sx30 := mE a0_2
          rw [hx30] at sx30
          refine jD rfl (gF (sx30)) ?_
          refine goY ?_
          refine pY (T := 111) (us := gM [(gB.mk x30_0 x30_1)]) ?_
          obtain ⟨⟨x31_0, x31_1⟩, hx31, h⟩ := gK h
          refine gBy (sv := .ag [.S x31_0, .sl 2 (0 + 1)]) (L' := [.box [.I a0_0, .S a0_1, .S a0_2, .I a0_3, .I a0_4_0, .S a0_4_1, .L 3 (gJ a0_4_2), .L 9 (kM a0_5), .L 11 (qD a0_6)], .box [.S [], .nilsl], .arr 113 2 (0 + 1) (gM x31_1)]) [2] (hrec_l12Args [(gB.mk x30_0 x30_1)] a0_5 0 hx31) ?_
          refine goY ?_
          refine kP ?_
          refine goL ?_
          refine kI 2 rfl rfl ?_
          refine jN ?_
          cases h
          exact qH
         ·refine goC h ?_ ?_<;>intro c32 h
          ·refine jL (P := Tryz.prog) Mix.h [(0, true), (1, true), (2, true), (3, true), (5, true), (6, true), (4, false), (7, false), (8, false)] (by kernel_rfl) ?_
           obtain ⟨⟨x33_0, x33_1⟩, hx33, h⟩ := qU h
           have sx33 := mE [112, 97, 99, 107]
           rw [hx33] at sx33
           refine jD rfl (gF (sx33)) ?_
           refine goY ?_
           obtain ⟨⟨x34_0, x34_1⟩, hx34, h⟩ := qU h
           have sx34 := mE a0_1
           rw [hx34] at sx34
           refine jD rfl (gF (sx34)) ?_
           refine goY ?_
           refine pY (T := 111) (us := gM [(gB.mk x33_0 x33_1), (gB.mk x34_0 x34_1)]) ?_
           obtain ⟨⟨x35_0, x35_1⟩, hx35, h⟩ := gK h
           refine gBy (sv := .ag [.S x35_0, .sl 2 (0 + 1)]) (L' := [.box [.I a0_0, .S a0_1, .S a0_2, .I a0_3, .I a0_4_0, .S a0_4_1, .L 3 (gJ a0_4_2), .L 9 (kM a0_5), .L 11 (qD a0_6)], .box [.S [], .nilsl], .arr 113 2 (0 + 1) (gM x35_1)]) [2] (hrec_l12Args [(gB.mk x33_0 x33_1), (gB.mk x34_0 x34_1)] a0_5 0 hx35) ?_
           refine goY ?_
           refine kP ?_
           refine goL ?_
           refine kI 2 rfl rfl ?_
           refine jN ?_
           cases h
           exact qH
          ·refine goC h ?_ ?_<;>intro c36 h
           ·refine jL (P := Tryz.prog) Mix.h [(0, true), (1, true), (2, true), (3, true), (5, true), (6, true), (4, false), (7, false), (8, false)] (by kernel_rfl) ?_
            obtain ⟨⟨x37_0, x37_1⟩, hx37, h⟩ := qU h
            have sx37 := mE [116, 104, 101]
            rw [hx37] at sx37
            refine jD rfl (gF (sx37)) ?_
            refine goY ?_
            obtain ⟨⟨x38_0, x38_1⟩, hx38, h⟩ := gK h
            refine jD rfl (gF (gHn 5000 (gD.mk a0_4_0 a0_4_1 a0_4_2) hx38)) ?_
            refine goY ?_
            refine pY (T := 111) (us := gM [(gB.mk x37_0 x37_1), (gB.mk x38_0 x38_1)]) ?_
            obtain ⟨⟨x39_0, x39_1⟩, hx39, h⟩ := gK h
            refine gBy (sv := .ag [.S x39_0, .sl 2 (0 + 1)]) (L' := [.box [.I a0_0, .S a0_1, .S a0_2, .I a0_3, .I a0_4_0, .S a0_4_1, .L 3 (gJ a0_4_2), .L 9 (kM a0_5), .L 11 (qD a0_6)], .box [.S [], .nilsl], .arr 113 2 (0 + 1) (gM x39_1)]) [2] (hrec_l12Args [(gB.mk x37_0 x37_1), (gB.mk x38_0 x38_1)] a0_5 0 hx39) ?_
            refine goY ?_
            refine kP ?_
            refine goL ?_
            refine kI 2 rfl rfl ?_
            refine jN ?_
            cases h
            exact qH
           ·refine noS ?_
            obtain ⟨⟨x40_0, x40_1⟩, hx40, h⟩ := qU h
            have sx40 := mE [99, 97, 115, 101]
            rw [hx40] at sx40
            obtain ⟨⟨x41_0, x41_1⟩, hx41, h⟩ := gK h
            refine uW (P := Tryz.prog) Mix.h (.q 0 (.q 2 (.q 3 (.h 1 (.h 4 (.h 5 (.h 6 .nil .nil) .nil) (.h 5 (.h 4 (.h 6 .nil .nil) .nil) .nil)) (.h 5 (.h 1 (.h 4 (.h 6 .nil .nil) .nil) .nil) .nil))))) ⟨[(1, .ptr 0 0), (2, .ptr 1 0), (3, .ptr 3 0)], [.box [.I a0_0, .S a0_1, .S a0_2, .I a0_3, .I a0_4_0, .S a0_4_1, .L 3 (gJ a0_4_2), .L 9 (kM a0_5), .L 11 (qD a0_6)], .box [.S [], .nilsl], .arr 113 2 (0 + 1) (gM x41_1), .box [.S x41_0, .sl 2 (0 + 1)]], Tryz.f135.ntmps⟩ (by kernel_rfl) ?_ ?_
            ·refine zW (jD rfl (gF (sx40)) jS) ?_
             refine goT ?_
             refine wO (pY (T := 111) (us := gM [(gB.mk x40_0 x40_1)]) jS) ?_ ?_
             ·refine wO (gBy (sv := .ag [.S x41_0, .sl 2 (0 + 1)]) (L' := [.box [.I a0_0, .S a0_1, .S a0_2, .I a0_3, .I a0_4_0, .S a0_4_1, .L 3 (gJ a0_4_2), .L 9 (kM a0_5), .L 11 (qD a0_6)], .box [.S [], .nilsl], .arr 113 2 (0 + 1) (gM x41_1)]) [2] (hrec_l12Args [(gB.mk x40_0 x40_1)] a0_5 0 hx41) jS) ?_ ?_
              ·refine goT ?_
               refine jX ?_
               exact vC 0 [0, 1, 2, 3]
              refine goT ?_
              refine jR (gBy (sv := .ag [.S x41_0, .sl 2 (0 + 1)]) (L' := [.box [.I a0_0, .S a0_1, .S a0_2, .I a0_3, .I a0_4_0, .S a0_4_1, .L 3 (gJ a0_4_2), .L 9 (kM a0_5), .L 11 (qD a0_6)], .box [.S [], .nilsl], .arr 113 2 (0 + 1) (gM x41_1), .box [.S [], .nilsl]]) [2] (hrec_l12Args [(gB.mk x40_0 x40_1)] a0_5 0 hx41) jS) ?_
              refine goT ?_
              refine jX ?_
              exact vC 0 [0, 1, 2, 3]
             refine goT ?_
             refine jR (pY (T := 111) (us := gM [(gB.mk x40_0 x40_1)]) jS) ?_
             refine jR (gBy (sv := .ag [.S x41_0, .sl 3 (0 + 1)]) (L' := [.box [.I a0_0, .S a0_1, .S a0_2, .I a0_3, .I a0_4_0, .S a0_4_1, .L 3 (gJ a0_4_2), .L 9 (kM a0_5), .L 11 (qD a0_6)], .box [.S [], .nilsl], .box [.S [], .nilsl], .arr 113 2 (0 + 1) (gM x41_1)]) [3] (hrec_l12Args [(gB.mk x40_0 x40_1)] a0_5 0 hx41) jS) ?_
             refine goT ?_
             refine jX ?_
             exact vC 0 [0, 1, 3, 2]
            refine goL ?_
            refine noB ?_
            refine vJ 0 8 (fun z45 => ?_)
            refine kQ (fun (y44 : Nat) (y42 : List gB) (v43 : Nat) => ⟨[(1, .ptr 0 0), (2, .ptr 1 0), (3, .ptr 3 0), (4, .N y44)], [.box [.I a0_0, .S a0_1, .S a0_2, .I a0_3, .I a0_4_0, .S a0_4_1, .L 3 (gJ a0_4_2), .L 9 (kM a0_5), .L 11 (qD a0_6)], .box [.S [], .nilsl], .arr 113 2 v43 (gM y42), .box [.S x41_0, .sl 2 v43]], Tryz.f135.ntmps⟩) (fun y44 y42 v43 => gGg rec_l12Sx (x41_0, x41_1) (a0_6.drop y44) y42 = some r) (fun y44 y42 v43 => a0_6.length - y44) 0 x41_1 (0 + 1) eJ h ?_
            rintro y44 y42 v43 h
            refine goL ?_
            refine mF (fun c46 => ?_) (fun c46 => ?_)
            ·have hky442 := vO c46
             obtain ⟨x47, hx47, hdx47⟩ := drop_at hky442
             rw [hdx47, gGg.eq_2] at h
             obtain ⟨x47_0, x47_1, ⟨x47_2_0, x47_2_1, x47_2_2, x47_2_3, ⟨x47_2_4_0, x47_2_4_1, x47_2_4_2⟩, x47_2_5, x47_2_6⟩⟩ := x47
             refine noS ?_
             refine kD (jC ?_)
             refine goL ?_
             refine qQ (jJ y44 (gX5 hx47)) ?_
             refine gIx ?_
             refine jL (P := Tryz.prog) Mix.h [(0, true), (1, true), (2, true), (4, true), (5, true), (6, true), (3, false), (7, false), (8, true)] (by kernel_rfl) ?_
             refine goY ?_
             obtain ⟨⟨x48_0, x48_1⟩, hx48, h⟩ := qU h
             have sx48 := mE x47_0
             rw [hx48] at sx48
             refine jD rfl (gF (sx48)) ?_
             refine goY ?_
             obtain ⟨x49, hx49, h⟩ := gK h
             refine jD rfl (gF (gQ7 x47_1 hx49)) ?_
             refine pY (T := 111) (us := gM [(gB.mk x48_0 x48_1)]) ?_
             obtain ⟨g50, h⟩ := pF h
             refine pV (T := 111) g50 ?_
             refine goY ?_
             refine kP ?_
             refine gIx ?_
             refine vH (P := Tryz.prog) Mix.h [(0, true), (1, true), (2, true), (3, true), (4, true), (5, true), (6, false), (7, false), (8, true), (9, false), (10, false), (11, true), (12, false)] (by kernel_rfl) ?_
             refine goY ?_
             obtain ⟨⟨x51_0, x51_1⟩, hx51, h⟩ := gK h
             refine jD rfl (gF (hrec_l12Sx (jO.mk x47_2_0 x47_2_1 x47_2_2 x47_2_3 (gD.mk x47_2_4_0 x47_2_4_1 x47_2_4_2) x47_2_5 x47_2_6) hx51)) ?_
             refine pY (T := 111) (us := gM [(gB.mk x51_0 x51_1)]) ?_
             obtain ⟨g52, h⟩ := pF h
             refine pV (T := 111) g52 ?_
             refine goY ?_
             refine zO 5 rfl rfl ?_
             refine pY (T := 111) (us := gM [(gB.mk [] (([(gB.mk x48_0 x48_1)] ++ x49) ++ [(gB.mk x51_0 x51_1)]))]) ?_
             obtain ⟨g53, h⟩ := pF h
             refine pV (T := 111) g53 ?_
             refine goY ?_
             refine kP ?_
             refine goL ?_
             refine jH (jT y44 (by omega)) ?_
             exact ⟨(y44 + 1), (y42 ++ [(gB.mk [] (([(gB.mk x48_0 x48_1)] ++ x49) ++ [(gB.mk x51_0 x51_1)]))]), (v43 + 1), h, by omega, eJ⟩
            ·have hky442 := vP c46
             rw [jE hky442, gGg.eq_1] at h
             refine goX ?_
             refine kI 2 rfl rfl ?_
             refine jN ?_
             cases h
             exact qH
mutual
def gMn : Nat → (List gB) → (List jO) → Option (List UInt8 × List gB)
 | 0, _, _ => none
 | n + 1, x0, x1 => gMm (gMn n) (gJk n) x0 x1
def gJk : Nat → jO → Option (gB)
 | 0, _ => none
 | n + 1, x0 => gSq (gMn n) (gJk n) x0
end
theorem gVq : ∀ (n : Nat), (∀ (x0 : List gB) (x1 : List jO) (w0 : Nat) {r : List UInt8 × List gB}, gMn n x0 x1 = some r → Go.Eng.Spec Tryz.prog 155 [.sl 0 w0, .L 9 (kM x1)] [.arr 113 2 w0 (gM x0)] (fun sv Lo => sv = .ag [.S r.1, .sl 0 (w0 + 1)] ∧ Lo = [.arr 113 2 (w0 + 1) (gM r.2)])) ∧ (∀ (x0 : jO) {r : gB}, gJk n x0 = some r → jB Tryz.prog 135 [.d (yO x0)] [mD r]) := by
 intro n
 induction n with
 | zero => exact ⟨(by intro x0 x1 w0 r h; cases h), (by intro x0 r h; cases h)⟩
 | succ n ih =>
   obtain ⟨ih0, ih1⟩ := ih
   refine ⟨(fun x0 x1 w0 r h => gWu ih0 ih1 x0 x1 w0 h), (fun x0 r h => hDz ih0 ih1 x0 h)⟩
theorem gSr : ∀ (n : Nat) (x0 : jO) {r : gB}, gJk n x0 = some r → jB Tryz.prog 135 [.d (yO x0)] [mD r] := fun n => (gVq n).2
def gBa : List gB → (List jF) → Option (List jF)
 | [], y1 => (some y1)
 | x6 :: xs, y1 => bnd (pX x6 0) fun x7 =>
bnd (pX x6 1) fun x8 =>
bnd (gJa 5000 x8) fun x9 =>
gd (y1.length + [(jF.mk x7.atom x9)].length ≤ 4294967296) (
gBa xs (y1 ++ [(jF.mk x7.atom x9)]))
def gGy (a0 : gB) : Option (List jF) :=
gBa a0.list []
theorem gMo (a0 : gB) {r : List jF} (h : gGy a0 = some r) : jB Tryz.prog 110 [.d (mD a0)] [.sl 4 (jV r)] := by
 obtain ⟨a0_0, a0_1⟩ := a0
 unfold gGy at h
 refine SpI Tryz.func110 fun A _ => ?_
 refine goL ?_
 refine gAc ?_
 refine goL ?_
 refine noB ?_
 refine vJ 0 1 (fun z4 => ?_)
 refine kQ (fun (y3 : Nat) (y1 : List jF) (v2 : Nat) => ⟨[(1, .ptr 0 0), (3, .sl 1 v2), (4, .N y3)], [.box [.S a0_0, .L 2 (gM a0_1)], .arr 67 4 v2 (jV y1)], Tryz.f110.ntmps⟩) (fun y3 y1 v2 => gBa (a0_1.drop y3) y1 = some r) (fun y3 y1 v2 => a0_1.length - y3) 0 [] 0 eJ h ?_
 rintro y3 y1 v2 h
 refine goL ?_
 refine mF (fun c5 => ?_) (fun c5 => ?_)
 ·have hky32 := vO c5
  obtain ⟨x6, hx6, hdx6⟩ := drop_at hky32
  rw [hdx6, gBa.eq_2] at h
  obtain ⟨x6_0, x6_1⟩ := x6
  refine noS ?_
  refine kD (jC ?_)
  refine vH (P := Tryz.prog) Mix.h [(0, true), (1, true), (2, true), (3, true), (4, true), (5, true), (6, true), (7, true), (8, true), (9, true), (10, true), (11, true), (12, true), (13, true), (14, true), (15, true), (16, false), (17, false), (18, true)] (by kernel_rfl) ?_
  refine goY ?_
  refine jD rfl (jJ y3 (qO hx6)) ?_
  refine goY ?_
  obtain ⟨⟨x7_0, x7_1⟩, hx7, h⟩ := gK h
  refine jD rfl (gF (qI (gB.mk x6_0 x6_1) 0 hx7)) ?_
  refine jD rfl (gF1) ?_
  refine goY ?_
  refine jD rfl (jJ y3 (qO hx6)) ?_
  refine goY ?_
  obtain ⟨⟨x8_0, x8_1⟩, hx8, h⟩ := gK h
  refine jD rfl (gF (qI (gB.mk x6_0 x6_1) 1 hx8)) ?_
  obtain ⟨⟨x9_0, x9_1, x9_2⟩, hx9, h⟩ := gK h
  refine jD rfl (gF (gLm 5000 (gB.mk x8_0 x8_1) hx9)) ?_
  refine goY ?_
  refine pY (T := 44) (us := jV [(jF.mk x7_0 (gD.mk x9_0 x9_1 x9_2))]) ?_
  obtain ⟨g10, h⟩ := pF h
  refine pV (T := 44) g10 ?_
  refine goY ?_
  refine kP ?_
  refine goL ?_
  refine jH (jT y3 (by omega)) ?_
  exact ⟨(y3 + 1), (y1 ++ [(jF.mk x7_0 (gD.mk x9_0 x9_1 x9_2))]), (v2 + 1), h, by omega, eJ⟩
 ·have hky32 := vP c5
  rw [jE hky32, gBa.eq_1] at h
  refine goX ?_
  refine kI 1 rfl rfl ?_
  refine jN ?_
  cases h
  exact qH
def gB3 : List jF → (List gB) → Option (gB)
 | [], y1 => (some (gB.mk [] y1))
 | x6 :: xs, y1 => lt_ (kU x6.trait) fun x7 =>
bnd (gJb 5000 x6.type_) fun x8 =>
bnd (gF7 [x7, x8]) fun x9 =>
gd (y1.length + [x9].length ≤ 4294967296) (
gB3 xs (y1 ++ [x9]))
def gIs (a0 : List jF) : Option (gB) :=
gB3 a0 []
theorem gCs (a0 : List jF) {r : gB} (h : gIs a0 = some r) : jB Tryz.prog 137 [.L 4 (jV a0)] [mD r] := by
 unfold gIs at h
 refine SpI Tryz.func137 fun A _ => ?_
 refine goL ?_
 refine gFj (kE TBd.h TZ.h rfl (by repeat constructor)) ?_
 refine noB ?_
 refine yF 113 2 1 1 rfl rfl (by repeat constructor) (by repeat constructor) (by repeat constructor) (by repeat constructor) ?_
 show V _ _ _ _ _
 refine gEk 0 (fun z4 => ?_)
 refine kQ (fun (y3 : Nat) (y1 : List gB) (v2 : Nat) => ⟨[(0, .L 4 (jV a0)), (2, .ptr 0 0), (3, .ptr 1 0), (4, .N y3)], [.box [.S [], .nilsl], .box [.S [], .sl 2 v2], .arr 113 2 v2 (gM y1)], Tryz.f137.ntmps⟩) (fun y3 y1 v2 => gB3 (a0.drop y3) y1 = some r) (fun y3 y1 v2 => a0.length - y3) 0 [] 0 eJ h ?_
 rintro y3 y1 v2 h
 refine goL ?_
 refine mF (fun c5 => ?_) (fun c5 => ?_)
 ·have hky32 := vO c5
  obtain ⟨x6, hx6, hdx6⟩ := drop_at hky32
  rw [hdx6, gB3.eq_2] at h
  obtain ⟨x6_0, ⟨x6_1_0, x6_1_1, x6_1_2⟩⟩ := x6
  refine noS ?_
  refine kD (jC ?_)
  refine vH (P := Tryz.prog) Mix.h [(0, true), (1, true), (2, true), (3, true), (4, true), (5, true), (6, true), (8, true), (9, true), (10, true), (11, true), (12, true), (7, false), (13, false), (14, false), (15, false), (16, false), (17, false), (18, true), (19, false)] (by kernel_rfl) ?_
  refine goY ?_
  refine jD rfl (jJ y3 (gHp hx6)) ?_
  refine goY ?_
  refine jD rfl (jJ y3 (gHp hx6)) ?_
  refine goY ?_
  obtain ⟨⟨x7_0, x7_1⟩, hx7, h⟩ := qU h
  have sx7 := mE x6_0
  rw [hx7] at sx7
  refine mZ (sx7) ?_
  obtain ⟨⟨x8_0, x8_1⟩, hx8, h⟩ := gK h
  refine mZ (gHn 5000 (gD.mk x6_1_0 x6_1_1 x6_1_2) hx8) ?_
  refine pY (T := 111) (us := gM [(gB.mk x7_0 x7_1), (gB.mk x8_0 x8_1)]) ?_
  refine zO 3 rfl rfl ?_
  obtain ⟨⟨x9_0, x9_1⟩, hx9, h⟩ := gK h
  refine mZ (gI1 [(gB.mk x7_0 x7_1), (gB.mk x8_0 x8_1)] hx9) ?_
  refine pY (T := 111) (us := gM [(gB.mk x9_0 x9_1)]) ?_
  obtain ⟨g10, h⟩ := pF h
  refine pV (T := 111) g10 ?_
  refine goY ?_
  refine kP ?_
  refine goL ?_
  refine jH (jT y3 (by omega)) ?_
  exact ⟨(y3 + 1), (y1 ++ [(gB.mk x9_0 x9_1)]), (v2 + 1), h, by omega, eJ⟩
 ·have hky32 := vP c5
  rw [jE hky32, gB3.eq_1] at h
  refine goX ?_
  refine kI 2 rfl rfl ?_
  refine jN ?_
  cases h
  exact qH
def gC7 (c : jA) : Option (List UInt8 × jA) :=
bnd (gH8 c) fun x1 =>
bnd (gCm x1.2 5) fun x2 =>
(cnd x2.1 (
(some (x1.1, x2.2))) (
gd (x1.1.length + ([10] : List UInt8).length ≤ 4294967296) (
bnd (gKc x2.2) fun x5 =>
gd ((x1.1 ++ ([10] : List UInt8)).length + x5.1.length ≤ 4294967296) (
(some (((x1.1 ++ ([10] : List UInt8)) ++ x5.1), x5.2))))))
theorem gOi (c : jA) {r : List UInt8 × jA} (h : gC7 c = some r) : Go.Eng.Spec Tryz.prog 30 [.ptr 0 0] [.box [.L 1 (kN c.b), .I c.i, .I c.h]] (fun sv Lo => sv = .S r.1 ∧ Lo = [.box [.L 1 (kN r.2.b), .I r.2.i, .I r.2.h]]) := by
 obtain ⟨c_0, c_1, c_2⟩ := c
 unfold gC7 at h
 refine kY 1 Tryz.func30 rfl (by kernel_rfl) rfl rfl fun A _ => ?_
 refine goL ?_
 obtain ⟨⟨x1_0, ⟨x1_1_0, x1_1_1, x1_1_2⟩⟩, hx1, h⟩ := gK h
 refine zH 0 (gW8 (jA.mk c_0 c_1 c_2) hx1) ?_
 refine goL ?_
 obtain ⟨⟨x2_0, ⟨x2_1_0, x2_1_1, x2_1_2⟩⟩, hx2, h⟩ := gK h
 refine zH 0 (gG9 (jA.mk x1_1_0 x1_1_1 x1_1_2) 5 hx2) ?_
 refine goC h ?_ ?_<;>intro c3 h
 ·refine goL ?_
  refine jN ?_
  obtain rfl := Option.some.inj h
  exact gEl [.S x1_0] [.box [.L 1 (kN x2_1_0), .I x2_1_1, .I x2_1_2]] ⟨rfl, rfl⟩
 ·refine goS ?_
  obtain ⟨g4, h⟩ := pF h
  refine jH (vK g4) ?_
  obtain ⟨⟨x5_0, ⟨x5_1_0, x5_1_1, x5_1_2⟩⟩, hx5, h⟩ := gK h
  refine zH 0 (hAm (jA.mk x2_1_0 x2_1_1 x2_1_2) hx5) ?_
  obtain ⟨g6, h⟩ := pF h
  refine jH (vK g6) ?_
  refine jN ?_
  obtain rfl := Option.some.inj h
  exact gEl [.d (.s ((x1_0 ++ ([10] : List UInt8)) ++ x5_0))] [.box [.L 1 (kN x5_1_0), .I x5_1_1, .I x5_1_2]] ⟨rfl, rfl⟩
end Go.Proofs.YtfaplndgbgoaaaaGreat
set_option maxHeartbeats 4000000
set_option linter.unusedVariables false
set_option linter.unusedSimpArgs false
set_option linter.unusedSectionVars false
namespace Go.Proofs.YtfaplndgbgoaaaaGreat
open Go Go.Eng
attribute [local irreducible] V VO VQ VY Quiet QR jB kR Rng uX vB qY
def gFs (a0 : gI) (a1 : List jF) (a2 : gD) : Option (gD × Int) :=
bnd (wD 100000 a0 a1 a2 12) fun x1 =>
(some (x1.1, x1.2))
theorem gQz (a0 : gI) (a1 : List jF) (a2 : gD) {r : gD × Int} (h : gFs a0 a1 a2 = some r) : jB Tryz.prog 73 [.d (kS a0), .L 4 (jV a1), .d (jQ a2)] [jQ r.1, .i .i64 r.2] := by
 obtain ⟨a0_0⟩ := a0
 obtain ⟨a2_0, a2_1, a2_2⟩ := a2
 unfold gFs at h
 refine SpI Tryz.func73 fun A _ => ?_
 refine goL ?_
 obtain ⟨⟨⟨x1_0_0, x1_0_1, x1_0_2⟩, x1_1⟩, hx1, h⟩ := gK h
 refine qQ (gF (gSp 100000 (gI.mk a0_0) a1 (gD.mk a2_0 a2_1 a2_2) 12 hx1)) ?_
 exact goR h
def gDg (a0 : jO) (a1 : List (List UInt8)) : List (List UInt8) → Option (Bool)
 | [] => bnd (gGb a0) fun x7 =>
(some x7)
 | x5 :: xs => (cnd (!(vN a1 x5)) (
(some false)) (
gDg a0 a1 xs ))
def gHx (a0 : jO) (a1 : List (List UInt8)) : Option (Bool) :=
bnd (gD4 a0) fun x1 =>
gDg a0 a1 x1
theorem gMp (a0 : jO) (a1 : List (List UInt8)) {r : Bool} (h : gHx a0 a1 = some r) : jB Tryz.prog 144 [.d (yO a0), .L 1 (gY a1)] [.b r] := by
 obtain ⟨a0_0, a0_1, a0_2, a0_3, ⟨a0_4_0, a0_4_1, a0_4_2⟩, a0_5, a0_6⟩ := a0
 unfold gHx at h
 refine SpI Tryz.func144 fun A _ => ?_
 refine goL ?_
 obtain ⟨x1, hx1, h⟩ := gK h
 refine jH (gF (gLx (jO.mk a0_0 a0_1 a0_2 a0_3 (gD.mk a0_4_0 a0_4_1 a0_4_2) a0_5 a0_6) hx1)) ?_
 refine noB ?_
 refine gEk 5 (fun z3 => ?_)
 refine mY (fun (y2 : Nat) => ⟨[(1, .L 1 (gY a1)), (2, .ptr 0 0), (5, .L 1 (gY x1)), (6, .N y2)], [.box [.I a0_0, .S a0_1, .S a0_2, .I a0_3, .I a0_4_0, .S a0_4_1, .L 3 (gJ a0_4_2), .L 9 (kM a0_5), .L 11 (qD a0_6)]], Tryz.f144.ntmps⟩) (fun y2 => gDg (jO.mk a0_0 a0_1 a0_2 a0_3 (gD.mk a0_4_0 a0_4_1 a0_4_2) a0_5 a0_6) a1 (x1.drop y2)  = some r) (fun y2 => x1.length - y2) 0 eJ h ?_
 rintro y2 h
 refine goL ?_
 refine mF (fun c4 => ?_) (fun c4 => ?_)
 ·have hky22 := vO c4
  obtain ⟨x5, hx5, hdx5⟩ := drop_at hky22
  rw [hdx5, gDg.eq_2] at h
  refine noS ?_
  refine kD (jC ?_)
  refine goL ?_
  refine jH (jJ y2 (gOl hx5)) ?_
  refine jH (gF (gD1 a1 x5)) ?_
  refine mF (fun c6 => ?_) (fun c6 => ?_)
  ·replace h := gW c6 h
   exact goR h
  ·replace h := gX c6 h
   refine goS ?_
   refine jH (jT y2 (by omega)) ?_
   exact ⟨(y2 + 1), h, by omega, eJ⟩
 ·have hky22 := vP c4
  rw [jE hky22, gDg.eq_1] at h
  refine goX ?_
  obtain ⟨x7, hx7, h⟩ := gK h
  refine qQ (gF (gOh (jO.mk a0_0 a0_1 a0_2 a0_3 (gD.mk a0_4_0 a0_4_1 a0_4_2) a0_5 a0_6) hx7)) ?_
  exact goR h
def uJ (a0 : kW) : List pK → (List (List UInt8)) → Option (Bool)
 | [], y1 => bnd ((cnd (kV a0.name) (bnd (vX a0.vars 3) fun x14 =>
(cnd x14 ((cnd (decide ((y1.length : Int) > 0)) (bnd (vX y1 5) fun x17 =>
(some x17)) ((some false)))) ((some false)))) ((some false)))) fun b12 =>
(some b12)
 | x6 :: xs, y1 => bnd ((cnd (decide ((x6.fields.length : Int) > 4)) ((some true)) (bnd (gLz x6.fields a0.vars) fun x9 =>
(some (!x9))))) fun b7 =>
(cnd b7 (
(some false)) (
gd (y1.length + [x6.name].length ≤ 4294967296) (
uJ a0 xs (y1 ++ [x6.name]))))
def zX (a0 : kW) : Option (Bool) :=
uJ a0 a0.constructors []
theorem gFt (a0 : kW) {r : Bool} (h : zX a0 = some r) : jB Tryz.prog 117 [.d (gDs a0)] [.b r] := by
 obtain ⟨a0_0, a0_1, a0_2⟩ := a0
 unfold zX at h
 refine SpI Tryz.func117 fun A _ => ?_
 refine goL ?_
 refine gFh ?_
 refine goL ?_
 refine noB ?_
 refine vJ 0 2 (fun z4 => ?_)
 refine kQ (fun (y3 : Nat) (y1 : List (List UInt8)) (v2 : Nat) => ⟨[(1, .ptr 0 0), (3, .sl 1 v2), (4, .N y3)], [.box [.S a0_0, .L 1 (gY a0_1), .L 2 (mQ a0_2)], .own 9 1 v2 (gY y1)], Tryz.f117.ntmps⟩) (fun y3 y1 v2 => uJ (kW.mk a0_0 a0_1 a0_2) (a0_2.drop y3) y1 = some r) (fun y3 y1 v2 => a0_2.length - y3) 0 [] 0 eJ h ?_
 rintro y3 y1 v2 h
 refine goL ?_
 refine mF (fun c5 => ?_) (fun c5 => ?_)
 ·have hky32 := vO c5
  obtain ⟨x6, hx6, hdx6⟩ := drop_at hky32
  rw [hdx6, uJ.eq_2] at h
  obtain ⟨x6_0, x6_1⟩ := x6
  refine noS ?_
  refine kD (jC ?_)
  refine gIx ?_
  obtain ⟨b7, hb7, h⟩ := gK h
  refine qP (P := Tryz.prog) Mix.h ⟨[(1, .ptr 0 0), (3, .sl 1 v2), (4, .N y3), (32, .B b7)], [.box [.S a0_0, .L 1 (gY a0_1), .L 2 (mQ a0_2)], .own 9 1 v2 (gY y1)], Tryz.f117.ntmps⟩ (by kernel_rfl) ?_ ?_
  ·refine goL ?_
   refine gCr (jJ y3 (gBt hx6)) ?_
   refine goL ?_
   refine wN 21 (fun c8 => ?_) (fun c8 => ?_)
   ·replace hb7 := gW c8 hb7
    refine goL ?_
    cases hb7
    exact eJ
   ·replace hb7 := gX c8 hb7
    refine goL ?_
    refine gBo (jJ y3 (gBt hx6)) ?_
    refine goL ?_
    obtain ⟨x9, hx9, hb7⟩ := gK hb7
    refine gBo (gF (gTy x6_1 a0_1 hx9)) ?_
    refine goL ?_
    cases hb7
    exact eJ
  refine goC h ?_ ?_<;>intro c10 h
  ·exact goR h
  ·refine goS ?_
   refine jH (jJ y3 (gBt hx6)) ?_
   refine gA7 x6_0 ?_
   obtain ⟨g11, h⟩ := pF h
   refine gGo g11 ?_
   refine goL ?_
   refine jH (jT y3 (by omega)) ?_
   exact ⟨(y3 + 1), (y1 ++ [x6_0]), (v2 + 1), h, by omega, eJ⟩
 ·have hky32 := vP c5
  rw [jE hky32, uJ.eq_1] at h
  refine goX ?_
  refine jH (gF (pI a0_0)) ?_
  obtain ⟨b12, hb12, h⟩ := gK h
  refine jU ⟨[(2, .B b12)], [.box [.S a0_0, .L 1 (gY a0_1), .L 2 (mQ a0_2)], .own 9 1 v2 (gY y1)], Tryz.f117.ntmps⟩ ?_ ?_
  ·refine gQ 45 (fun c13 => ?_) (fun c13 => ?_)
   ·replace hb12 := gW c13 hb12
    refine goL ?_
    refine uB ?_
    obtain ⟨x14, hx14, hb12⟩ := gK hb12
    refine jH (gF (yH a0_1 3 hx14)) ?_
    refine gQ 50 (fun c15 => ?_) (fun c15 => ?_)
    ·replace hb12 := gW c15 hb12
     refine goL ?_
     refine gQ 55 (fun c16 => ?_) (fun c16 => ?_)
     ·replace hb12 := gW c16 hb12
      refine goL ?_
      refine uB ?_
      obtain ⟨x17, hx17, hb12⟩ := gK hb12
      refine gFj (gSm (yH y1 5 hx17)) ?_
      cases hb12
      exact eJ
     ·replace hb12 := gX c16 hb12
      refine goL ?_
      cases hb12
      exact eJ
    ·replace hb12 := gX c15 hb12
     refine goL ?_
     cases hb12
     exact eJ
   ·replace hb12 := gX c13 hb12
    refine goL ?_
    cases hb12
    exact eJ
  exact goR h
end Go.Proofs.YtfaplndgbgoaaaaGreat
