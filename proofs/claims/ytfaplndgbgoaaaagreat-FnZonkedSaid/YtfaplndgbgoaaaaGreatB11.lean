import Derived.Test.YtfaplndgbgoaaaaGreatEng38
import Derived.Test.YtfaplndgbgoaaaaGreatEng67
import Derived.Test.YtfaplndgbgoaaaaGreatSfi0
import Derived.Test.YtfaplndgbgoaaaaGreatB2
import Derived.Test.YtfaplndgbgoaaaaGreatB4
import Derived.Test.YtfaplndgbgoaaaaGreatB5
import Derived.Test.YtfaplndgbgoaaaaGreatVr
import Derived.Test.YtfaplndgbgoaaaaGreatB9
import Derived.Test.YtfaplndgbgoaaaaGreatCur
import Derived.Test.YtfaplndgbgoaaaaGreatUn1
set_option maxHeartbeats 4000000
set_option linter.unusedVariables false
set_option linter.unusedSimpArgs false
set_option linter.unusedSectionVars false
namespace Go.Proofs.YtfaplndgbgoaaaaGreat
open Go Go.Eng
attribute [local irreducible] V VO VQ VY Quiet QR jB kR Rng uX vB qY
def gAd (rec_l25Solve : gI → (List jK) → jF → Int → Option (gU × Int)) (a0 : gI) (a1 : List jK) (a3 : Int) (x1 : gT × Int) (x5 : List gH × Bool) : List jF → (List gU) → Option (gU × Int)
 | [], y6 => (some ((gU.mk 1 0 x1.1 y6), 0))
 | x11 :: xs, y6 => gd (bok x5.1 ∧ tok x11.type_) (lt_ (apT x5.1 x11.type_) fun x13 =>
bnd (rec_l25Solve a0 a1 (jF.mk x11.trait x13) (IntKind.i64.wrap (a3 - 1))) fun x14 =>
(cnd (x14.2 != 0) (
(some ((gU.mk 0 0 (gT.mk 0 0) []), x14.2))) (
gd (y6.length + [x14.1].length ≤ 4294967296) (
gAd rec_l25Solve a0 a1 a3 x1 x5 xs (y6 ++ [x14.1])))))
def gJy (rec_l25Inst : gI → (List jK) → jF → Int → Option (gU × Int)) (rec_l25Solve : gI → (List jK) → jF → Int → Option (gU × Int)) (a0 : gI) (a1 : List jK) (a2 : jF) (a3 : Int) : Option (gU × Int) :=
bnd (yR a0 a2) fun x1 =>
(cnd (x1.2 != 0) (
(some ((gU.mk 0 0 (gT.mk 0 0) []), x1.2))) (
bnd (at? a0.packages x1.1.package) fun x3 =>
bnd (at? x3.instances x1.1.at_) fun x4 =>
bnd (gDp x4.head a2.type_) fun x5 =>
gAd rec_l25Solve a0 a1 a3 x1 x5 x4.where_ []))
theorem gWq {rec_l25Inst : gI → (List jK) → jF → Int → Option (gU × Int)} {rec_l25Solve : gI → (List jK) → jF → Int → Option (gU × Int)} (hrec_l25Inst : ∀ (x0 : gI) (x1 : List jK) (x2 : jF) (x3 : Int) {r : gU × Int}, rec_l25Inst x0 x1 x2 x3 = some r → jB Tryz.prog 150 [.d (kS x0), .L 6 (kX x1), .d (gAi x2), .I x3] [mV r.1, .i .i64 r.2]) (hrec_l25Solve : ∀ (x0 : gI) (x1 : List jK) (x2 : jF) (x3 : Int) {r : gU × Int}, rec_l25Solve x0 x1 x2 x3 = some r → jB Tryz.prog 120 [.d (kS x0), .L 6 (kX x1), .d (gAi x2), .I x3] [mV r.1, .i .i64 r.2]) (a0 : gI) (a1 : List jK) (a2 : jF) (a3 : Int) {r : gU × Int} (h : gJy rec_l25Inst rec_l25Solve a0 a1 a2 a3 = some r) : jB Tryz.prog 150 [.d (kS a0), .L 6 (kX a1), .d (gAi a2), .I a3] [mV r.1, .i .i64 r.2] := by
 obtain ⟨a0_0⟩ := a0
 obtain ⟨a2_0, ⟨a2_1_0, a2_1_1, a2_1_2⟩⟩ := a2
 unfold gJy at h
 refine SpI Tryz.func150 fun A _ => ?_
 refine goL ?_
 obtain ⟨⟨⟨x1_0_0, x1_0_1⟩, x1_1⟩, hx1, h⟩ := gK h
 refine jH (gF (gLh (gI.mk a0_0) (jF.mk a2_0 (gD.mk a2_1_0 a2_1_1 a2_1_2)) hx1)) ?_
 refine mF (fun c2 => ?_) (fun c2 => ?_)
 ·replace h := gW c2 h
  refine goL ?_
  refine gBm (kE TBd.h TZ.h rfl (by repeat constructor)) ?_
  exact goR h
 ·replace h := gX c2 h
  refine noS ?_
  refine jL (P := Tryz.prog) Mix.h [(0, true), (1, true), (2, true), (3, true), (4, true), (5, true), (6, true), (7, true), (8, true), (9, true), (10, true), (11, false), (12, false)] (by kernel_rfl) ?_
  refine goY ?_
  obtain ⟨x3, hx3, h⟩ := gK h
  obtain ⟨hx30, hx3⟩ := gD9 hx3
  obtain ⟨x3_0, x3_1, x3_2, x3_3, x3_4, x3_5⟩ := x3
  refine jD rfl (qV hx30 (gDa hx3)) ?_
  refine goY ?_
  obtain ⟨x4, hx4, h⟩ := gK h
  obtain ⟨hx40, hx4⟩ := gD9 hx4
  obtain ⟨x4_0, x4_1, ⟨x4_2_0, x4_2_1, x4_2_2⟩, x4_3, x4_4, x4_5, ⟨x4_6_0, x4_6_1, x4_6_2⟩, x4_7⟩ := x4
  refine jD rfl (qV hx40 (gGn hx4)) ?_
  refine goY ?_
  refine kP ?_
  refine goL ?_
  obtain ⟨⟨x5_0, x5_1⟩, hx5, h⟩ := gK h
  refine jH (gF (gM4 (gD.mk x4_2_0 x4_2_1 x4_2_2) (gD.mk a2_1_0 a2_1_1 a2_1_2) hx5)) ?_
  refine gFj (kE TBd.h TZ.h rfl (by repeat constructor)) ?_
  refine noB ?_
  refine yF 171 5 5 4 rfl rfl (by repeat constructor) (by repeat constructor) (by repeat constructor) (by repeat constructor) ?_
  show V _ _ _ _ _
  refine vJ 4 5 (fun z9 => ?_)
  refine kQ (fun (y8 : Nat) (y6 : List gU) (v7 : Nat) => ⟨[(1, .L 6 (kX a1)), (3, .I a3), (4, .ptr 0 0), (8, .ptr 2 0), (12, .ptr 4 0), (13, .L 4 (gP x5_0)), (15, .ptr 5 0), (16, .N y8)], [.box [.L 6 (kK a0_0)], .box [.S a2_0, .I a2_1_0, .S a2_1_1, .L 3 (gJ a2_1_2)], .box [.I 0, .I 0, .I 0, .I 0, .nilsl], .box [.I x1_0_0, .I x1_0_1], .box [.S x4_0, .L 1 (gY x4_1), .I x4_2_0, .S x4_2_1, .L 3 (gJ x4_2_2), .L 4 (jV x4_3), .B x4_4, .B x4_5, .I x4_6_0, .S x4_6_1, .L 3 (gJ x4_6_2), .L 11 (mR x4_7)], .box [.I 1, .I 0, .I x1_0_0, .I x1_0_1, .sl 6 v7], .arr 171 5 v7 (qE y6)], Tryz.f150.ntmps⟩) (fun y8 y6 v7 => gAd rec_l25Solve (gI.mk a0_0) a1 a3 ((gT.mk x1_0_0 x1_0_1), x1_1) (x5_0, x5_1) (x4_3.drop y8) y6 = some r) (fun y8 y6 v7 => x4_3.length - y8) 0 [] 0 eJ h ?_
  rintro y8 y6 v7 h
  refine goL ?_
  refine mF (fun c10 => ?_) (fun c10 => ?_)
  ·have hky82 := vO c10
   obtain ⟨x11, hx11, hdx11⟩ := drop_at hky82
   rw [hdx11, gAd.eq_2] at h
   obtain ⟨x11_0, ⟨x11_1_0, x11_1_1, x11_1_2⟩⟩ := x11
   refine noS ?_
   refine kD (jC ?_)
   refine jL (P := Tryz.prog) Mix.h [(0, true), (1, true), (2, true), (3, true), (4, true), (5, true), (6, true), (7, true), (8, true), (9, true), (10, true), (11, true), (12, true), (13, true), (14, true), (15, true), (16, true), (17, true), (18, true), (19, true), (20, true), (21, true), (22, true), (23, false), (24, false), (25, true)] (by kernel_rfl) ?_
   refine goY ?_
   refine jD rfl (jJ y8 (gHp hx11)) ?_
   refine goY ?_
   refine jD rfl (jJ y8 (gHp hx11)) ?_
   refine goY ?_
   obtain ⟨g12, h⟩ := pF h
   obtain ⟨⟨x13_0, x13_1, x13_2⟩, hx13, h⟩ := qU h
   have sx13 := (gQl x5_0 (gD.mk x11_1_0 x11_1_1 x11_1_2) g12).p
   rw [hx13] at sx13
   refine jD rfl (gF (sx13)) ?_
   refine goY ?_
   refine jD rfl (qG) ?_
   obtain ⟨⟨⟨x14_0_0, x14_0_1, ⟨x14_0_2_0, x14_0_2_1⟩, x14_0_3⟩, x14_1⟩, hx14, h⟩ := gK h
   refine jD rfl (gF (hrec_l25Solve (gI.mk a0_0) a1 (jF.mk x11_0 (gD.mk x13_0 x13_1 x13_2)) (IntKind.i64.wrap (a3 - 1)) hx14)) ?_
   refine goY ?_
   refine kP ?_
   refine goC h ?_ ?_<;>intro c15 h
   ·refine goL ?_
    refine gBm (kE TBd.h TZ.h rfl (by repeat constructor)) ?_
    exact goR h
   ·refine goS ?_
    refine gBc (u := (.st [.i .i64 x14_0_0, .i .i64 x14_0_1, .st [.i .i64 x14_0_2_0, .i .i64 x14_0_2_1], .sl 5 (qE x14_0_3)])) ?_
    obtain ⟨g16, h⟩ := pF h
    refine gBu g16 ?_
    refine goL ?_
    refine jH (jT y8 (by omega)) ?_
    exact ⟨(y8 + 1), (y6 ++ [(gU.mk x14_0_0 x14_0_1 (gT.mk x14_0_2_0 x14_0_2_1) x14_0_3)]), (v7 + 1), h, by omega, eJ⟩
  ·have hky82 := vP c10
   rw [jE hky82, gAd.eq_1] at h
   refine goX ?_
   refine kI 6 rfl rfl ?_
   refine jN ?_
   cases h
   exact qH
def gGf (rec_l25Inst : gI → (List jK) → jF → Int → Option (gU × Int)) (rec_l25Solve : gI → (List jK) → jF → Int → Option (gU × Int)) (a0 : gI) (a1 : List jK) (a2 : jF) (a3 : Int) : Option (gU × Int) :=
(cnd (decide ((qC a1 a2) ≥ 0)) (
bnd (at? a1 (qC a1 a2)) fun x2 =>
bnd (uG (gU.mk 2 x2.from_ (gT.mk 0 0) []) x2.steps) fun x3 =>
(some (x3, 0))) (
(cnd (decide (a3 ≤ 0)) (
(some ((gU.mk 0 0 (gT.mk 0 0) []), 3))) (
lt_ (vT a0 a2.trait) fun x5 =>
(cnd x5.1.auto (
none) (
lt_ ((cnd (a2.type_.kind == 1) (true) ((a2.type_.kind == 3)))) fun b7 =>
(cnd b7 (
(some ((gU.mk 0 0 (gT.mk 0 0) []), 1))) (
(cnd (a2.type_.kind == 4) (
bnd (wB a0 a2.type_.name a2.trait) fun x11 =>
(cnd x11.2 (
bnd (uG (gU.mk 4 0 (gT.mk 0 0) []) x11.1) fun x13 =>
(some (x13, 0))) (
bnd (rec_l25Inst a0 a1 a2 a3) fun x14 =>
(some (x14.1, x14.2))))) (
bnd (rec_l25Inst a0 a1 a2 a3) fun x15 =>
(some (x15.1, x15.2))))))))))))
theorem gVn {rec_l25Inst : gI → (List jK) → jF → Int → Option (gU × Int)} {rec_l25Solve : gI → (List jK) → jF → Int → Option (gU × Int)} (hrec_l25Inst : ∀ (x0 : gI) (x1 : List jK) (x2 : jF) (x3 : Int) {r : gU × Int}, rec_l25Inst x0 x1 x2 x3 = some r → jB Tryz.prog 150 [.d (kS x0), .L 6 (kX x1), .d (gAi x2), .I x3] [mV r.1, .i .i64 r.2]) (hrec_l25Solve : ∀ (x0 : gI) (x1 : List jK) (x2 : jF) (x3 : Int) {r : gU × Int}, rec_l25Solve x0 x1 x2 x3 = some r → jB Tryz.prog 120 [.d (kS x0), .L 6 (kX x1), .d (gAi x2), .I x3] [mV r.1, .i .i64 r.2]) (a0 : gI) (a1 : List jK) (a2 : jF) (a3 : Int) {r : gU × Int} (h : gGf rec_l25Inst rec_l25Solve a0 a1 a2 a3 = some r) : jB Tryz.prog 120 [.d (kS a0), .L 6 (kX a1), .d (gAi a2), .I a3] [mV r.1, .i .i64 r.2] := by
 obtain ⟨a0_0⟩ := a0
 obtain ⟨a2_0, ⟨a2_1_0, a2_1_1, a2_1_2⟩⟩ := a2
 unfold gGf at h
 refine SpI Tryz.func120 fun A _ => ?_
 refine goL ?_
 refine jH (gF (gK4 a1 (jF.mk a2_0 (gD.mk a2_1_0 a2_1_1 a2_1_2)))) ?_
 refine mF (fun c1 => ?_) (fun c1 => ?_)
 ·replace h := gW c1 h
  refine jL (P := Tryz.prog) Mix.h [(0, true), (1, true), (2, true), (3, true), (4, true), (5, true), (6, true), (7, true), (8, true), (9, true), (10, true), (11, true), (12, false), (13, true)] (by kernel_rfl) ?_
  refine goY ?_
  obtain ⟨x2, hx2, h⟩ := gK h
  obtain ⟨hx20, hx2⟩ := gD9 hx2
  obtain ⟨⟨x2_0_0, ⟨x2_0_1_0, x2_0_1_1, x2_0_1_2⟩⟩, x2_1, x2_2⟩ := x2
  refine jD rfl (qV hx20 (gJr hx2)) ?_
  refine goY ?_
  refine jD rfl (qV hx20 (gJr hx2)) ?_
  refine goY ?_
  obtain ⟨⟨x3_0, x3_1, ⟨x3_2_0, x3_2_1⟩, x3_3⟩, hx3, h⟩ := gK h
  refine jD rfl (gF ((gE2 (gU.mk 2 x2_1 (gT.mk 0 0) []) x2_2 hx3).p)) ?_
  refine goY ?_
  refine kP ?_
  exact goR h
 ·replace h := gX c1 h
  refine goS ?_
  refine mF (fun c4 => ?_) (fun c4 => ?_)
  ·replace h := gW c4 h
   refine goL ?_
   refine gBm (kE TBd.h TZ.h rfl (by repeat constructor)) ?_
   exact goR h
  ·replace h := gX c4 h
   refine goS ?_
   obtain ⟨⟨⟨x5_0_0, x5_0_1, x5_0_2, x5_0_3, x5_0_4⟩, x5_1, x5_2⟩, hx5, h⟩ := qU h
   have sx5 := gIh (gI.mk a0_0) a2_0
   rw [hx5] at sx5
   refine jH (gF (sx5)) ?_
   refine mF (fun c6 => ?_) (fun c6 => ?_)
   ·replace h := gW c6 h
    refine goL ?_
    refine gAc ?_
    cases h
   ·replace h := gX c6 h
    refine goS ?_
    obtain ⟨b7, hb7, h⟩ := qU h
    refine jU ⟨[(1, .L 6 (kX a1)), (3, .I a3), (4, .ptr 0 0), (6, .ptr 1 0), (8, .ptr 2 0), (66, .B b7)], [.box [.L 6 (kK a0_0)], .box [.S a2_0, .I a2_1_0, .S a2_1_1, .L 3 (gJ a2_1_2)], .box [.I 0, .I 0, .I 0, .I 0, .nilsl], .box [.S x5_0_0, .L 1 (gY x5_0_1), .B x5_0_2, .B x5_0_3, .L 16 (kT x5_0_4)]], Tryz.f120.ntmps⟩ ?_ ?_
    ·refine gQ 61 (fun c8 => ?_) (fun c8 => ?_)
     ·replace hb7 := gW c8 hb7
      refine goL ?_
      cases hb7
      exact eJ
     ·replace hb7 := gX c8 hb7
      refine goL ?_
      cases hb7
      exact eJ
    refine goC h ?_ ?_<;>intro c9 h
    ·refine goL ?_
     refine gBm (kE TBd.h TZ.h rfl (by repeat constructor)) ?_
     exact goR h
    ·refine goS ?_
     refine mF (fun c10 => ?_) (fun c10 => ?_)
     ·replace h := gW c10 h
      refine goL ?_
      obtain ⟨⟨x11_0, x11_1⟩, hx11, h⟩ := gK h
      refine jH (gF (gGs (gI.mk a0_0) a2_1_1 a2_0 hx11)) ?_
      refine mF (fun c12 => ?_) (fun c12 => ?_)
      ·replace h := gW c12 h
       refine goL ?_
       refine gFj (kE TBd.h TZ.h rfl (by repeat constructor)) ?_
       obtain ⟨⟨x13_0, x13_1, ⟨x13_2_0, x13_2_1⟩, x13_3⟩, hx13, h⟩ := gK h
       refine qQ (gF ((gE2 (gU.mk 4 0 (gT.mk 0 0) []) x11_0 hx13).p)) ?_
       exact goR h
      ·replace h := gX c12 h
       refine goS ?_
       obtain ⟨⟨⟨x14_0_0, x14_0_1, ⟨x14_0_2_0, x14_0_2_1⟩, x14_0_3⟩, x14_1⟩, hx14, h⟩ := gK h
       refine qQ (gF (hrec_l25Inst (gI.mk a0_0) a1 (jF.mk a2_0 (gD.mk a2_1_0 a2_1_1 a2_1_2)) a3 hx14)) ?_
       exact goR h
     ·replace h := gX c10 h
      refine goS ?_
      obtain ⟨⟨⟨x15_0_0, x15_0_1, ⟨x15_0_2_0, x15_0_2_1⟩, x15_0_3⟩, x15_1⟩, hx15, h⟩ := gK h
      refine qQ (gF (hrec_l25Inst (gI.mk a0_0) a1 (jF.mk a2_0 (gD.mk a2_1_0 a2_1_1 a2_1_2)) a3 hx15)) ?_
      exact goR h
mutual
def gHw : Nat → gI → (List jK) → jF → Int → Option (gU × Int)
 | 0, _, _, _, _ => none
 | n + 1, x0, x1, x2, x3 => gJy (gHw n) (zP n) x0 x1 x2 x3
def zP : Nat → gI → (List jK) → jF → Int → Option (gU × Int)
 | 0, _, _, _, _ => none
 | n + 1, x0, x1, x2, x3 => gGf (gHw n) (zP n) x0 x1 x2 x3
end
theorem gVo : ∀ (n : Nat), (∀ (x0 : gI) (x1 : List jK) (x2 : jF) (x3 : Int) {r : gU × Int}, gHw n x0 x1 x2 x3 = some r → jB Tryz.prog 150 [.d (kS x0), .L 6 (kX x1), .d (gAi x2), .I x3] [mV r.1, .i .i64 r.2]) ∧ (∀ (x0 : gI) (x1 : List jK) (x2 : jF) (x3 : Int) {r : gU × Int}, zP n x0 x1 x2 x3 = some r → jB Tryz.prog 120 [.d (kS x0), .L 6 (kX x1), .d (gAi x2), .I x3] [mV r.1, .i .i64 r.2]) := by
 intro n
 induction n with
 | zero => exact ⟨(by intro x0 x1 x2 x3 r h; cases h), (by intro x0 x1 x2 x3 r h; cases h)⟩
 | succ n ih =>
   obtain ⟨ih0, ih1⟩ := ih
   refine ⟨(fun x0 x1 x2 x3 r h => gWq ih0 ih1 x0 x1 x2 x3 h), (fun x0 x1 x2 x3 r h => gVn ih0 ih1 x0 x1 x2 x3 h)⟩
theorem gVp : ∀ (n : Nat) (x0 : gI) (x1 : List jK) (x2 : jF) (x3 : Int) {r : gU × Int}, zP n x0 x1 x2 x3 = some r → jB Tryz.prog 120 [.d (kS x0), .L 6 (kX x1), .d (gAi x2), .I x3] [mV r.1, .i .i64 r.2] := fun n => (gVo n).2
def vW (a0 : gI) (y3 : Nat) (x6 : jF) (k2_0 : (List jK) → Option (List jK)) : List (List UInt8) → (List jK) → Option (List jK)
 | [], y11 => (k2_0 y11)
 | x16 :: xs, y11 => bnd (wB a0 x6.trait x16) fun x17 =>
gd (tok x6.type_) (lt_ (idT x6.type_) fun x19 =>
gd (y11.length + [(jK.mk (jF.mk x16 x19) (y3 : Int) x17.1)].length ≤ 4294967296) (
vW a0 y3 x6 k2_0 xs (y11 ++ [(jK.mk (jF.mk x16 x19) (y3 : Int) x17.1)])))
def qB (a0 : gI) : List jF → Nat → (List jK) → Option (List jK)
 | [], y3, y1 => (some y1)
 | x6 :: xs, y3, y1 => gd (tok x6.type_) (lt_ (idT x6.type_) fun x8 =>
gd (y1.length + [(jK.mk (jF.mk x6.trait x8) (y3 : Int) [])].length ≤ 4294967296) (
bnd (qF a0 x6.trait) fun x10 =>
vW a0 y3 x6 (fun y11 => qB a0 xs (y3 + 1) y11) x10 (y1 ++ [(jK.mk (jF.mk x6.trait x8) (y3 : Int) [])])))
def gC6 (a0 : gI) (a1 : List jF) : Option (List jK) :=
qB a0 a1 0 []
theorem gOg (a0 : gI) (a1 : List jF) {r : List jK} (h : gC6 a0 a1 = some r) : jB Tryz.prog 121 [.d (kS a0), .L 4 (jV a1)] [.sl 6 (kX r)] := by
 obtain ⟨a0_0⟩ := a0
 unfold gC6 at h
 refine SpI Tryz.func121 fun A _ => ?_
 refine goL ?_
 refine gAc ?_
 refine goL ?_
 refine noB ?_
 refine gEk 1 (fun z4 => ?_)
 refine kQ (fun (y3 : Nat) (y1 : List jK) (v2 : Nat) => ⟨[(1, .L 4 (jV a1)), (2, .ptr 0 0), (5, .sl 1 v2), (6, .N y3)], [.box [.L 6 (kK a0_0)], .arr 231 6 v2 (kX y1)], Tryz.f121.ntmps⟩) (fun y3 y1 v2 => qB (gI.mk a0_0) (a1.drop y3) y3 y1 = some r) (fun y3 y1 v2 => a1.length - y3) 0 [] 0 eJ h ?_
 rintro y3 y1 v2 h
 refine goL ?_
 refine mF (fun c5 => ?_) (fun c5 => ?_)
 ·have hky32 := vO c5
  obtain ⟨x6, hx6, hdx6⟩ := drop_at hky32
  rw [hdx6, qB.eq_2] at h
  obtain ⟨x6_0, ⟨x6_1_0, x6_1_1, x6_1_2⟩⟩ := x6
  refine noS ?_
  refine kD (jC ?_)
  refine jL (P := Tryz.prog) Mix.h [(0, true), (1, true), (2, true), (3, true), (4, true), (5, true), (6, true), (7, true), (8, true), (9, true), (10, true), (11, true), (12, true), (13, true), (14, true), (15, false), (16, false), (17, true)] (by kernel_rfl) ?_
  refine goY ?_
  refine jD rfl (jJ y3 (gHp hx6)) ?_
  refine goY ?_
  refine jD rfl (jJ y3 (gHp hx6)) ?_
  refine goY ?_
  obtain ⟨g7, h⟩ := pF h
  obtain ⟨⟨x8_0, x8_1, x8_2⟩, hx8, h⟩ := qU h
  have sx8 := (yB (gD.mk x6_1_0 x6_1_1 x6_1_2) g7).p
  rw [hx8] at sx8
  refine jD rfl (gF (sx8)) ?_
  refine goY ?_
  refine pY (T := 201) (us := kX [(jK.mk (jF.mk x6_0 (gD.mk x8_0 x8_1 x8_2)) (y3 : Int) [])]) ?_
  obtain ⟨g9, h⟩ := pF h
  refine pV (T := 201) g9 ?_
  refine goY ?_
  refine kP ?_
  refine goL ?_
  refine gCr (jJ y3 (gHp hx6)) ?_
  refine goL ?_
  obtain ⟨x10, hx10, h⟩ := gK h
  refine gCr (gF (gLi (gI.mk a0_0) x6_0 hx10)) ?_
  refine goL ?_
  refine noB ?_
  refine gEk 7 (fun z14 => ?_)
  refine kQ (fun (y13 : Nat) (y11 : List jK) (v12 : Nat) => ⟨[(1, .L 4 (jV a1)), (2, .ptr 0 0), (5, .sl 1 v12), (6, .N y3), (7, .L 1 (gY x10)), (8, .N y13)], [.box [.L 6 (kK a0_0)], .arr 231 6 v12 (kX y11), .arr 231 6 0 (kX [(jK.mk (jF.mk x6_0 (gD.mk x8_0 x8_1 x8_2)) (y3 : Int) [])])], Tryz.f121.ntmps⟩) (fun y13 y11 v12 => vW (gI.mk a0_0) y3 (jF.mk x6_0 (gD.mk x6_1_0 x6_1_1 x6_1_2)) (fun y11 => qB (gI.mk a0_0) (a1.drop (y3 + 1)) (y3 + 1) y11) (x10.drop y13) y11 = some r) (fun y13 y11 v12 => x10.length - y13) 0 (y1 ++ [(jK.mk (jF.mk x6_0 (gD.mk x8_0 x8_1 x8_2)) (y3 : Int) [])]) (v2 + 1) eJ h ?_
  rintro y13 y11 v12 h
  refine goL ?_
  refine mF (fun c15 => ?_) (fun c15 => ?_)
  ·have hky132 := vO c15
   obtain ⟨x16, hx16, hdx16⟩ := drop_at hky132
   rw [hdx16, vW.eq_2] at h
   refine noS ?_
   refine kD (jC ?_)
   refine goL ?_
   refine gCr (jJ y3 (gHp hx6)) ?_
   refine goL ?_
   refine gCr (jJ y13 (gOl hx16)) ?_
   refine goL ?_
   obtain ⟨⟨x17_0, x17_1⟩, hx17, h⟩ := gK h
   refine gCr (gF (gGs (gI.mk a0_0) x6_0 x16 hx17)) ?_
   refine gIx ?_
   refine vH (P := Tryz.prog) Mix.h [(0, true), (1, true), (2, true), (3, true), (4, true), (5, true), (6, true), (7, true), (8, true), (9, true), (10, true), (11, true), (12, true), (13, true), (14, true), (15, false), (16, false), (17, true)] (by kernel_rfl) ?_
   refine goY ?_
   refine jD rfl (jJ y13 (gOl hx16)) ?_
   refine goY ?_
   refine jD rfl (jJ y3 (gHp hx6)) ?_
   refine goY ?_
   obtain ⟨g18, h⟩ := pF h
   obtain ⟨⟨x19_0, x19_1, x19_2⟩, hx19, h⟩ := qU h
   have sx19 := (yB (gD.mk x6_1_0 x6_1_1 x6_1_2) g18).p
   rw [hx19] at sx19
   refine jD rfl (gF (sx19)) ?_
   refine goY ?_
   refine pY (T := 201) (us := kX [(jK.mk (jF.mk x16 (gD.mk x19_0 x19_1 x19_2)) (y3 : Int) x17_0)]) ?_
   obtain ⟨g20, h⟩ := pF h
   refine pV (T := 201) g20 ?_
   refine goY ?_
   refine kP ?_
   refine goL ?_
   refine jH (jT y13 (by omega)) ?_
   exact ⟨(y13 + 1), (y11 ++ [(jK.mk (jF.mk x16 (gD.mk x19_0 x19_1 x19_2)) (y3 : Int) x17_0)]), (v12 + 1), h, by omega, eJ⟩
  ·have hky132 := vP c15
   rw [jE hky132, vW.eq_1] at h
   refine goX ?_
   refine jH (jT y3 (by omega)) ?_
   exact ⟨(y3 + 1), y11, v12, h, by omega, eJ⟩
 ·have hky32 := vP c5
  rw [jE hky32, qB.eq_1] at h
  refine goX ?_
  refine kI 1 rfl rfl ?_
  refine jN ?_
  cases h
  exact qH
def pW (a0 : gB) : Option (Bool) :=
bnd (gPh 5000 a0 900) fun x1 =>
bnd ((cnd (decide (x1 ≥ 0)) (bnd (gQn 5000 a0) fun x4 =>
(cnd x4 (bnd (gG4 5000 a0) fun x6 =>
(some (decide (x6 ≤ 14)))) ((some false)))) ((some false)))) fun b2 =>
(some b2)
theorem wC (a0 : gB) {r : Bool} (h : pW a0 = some r) : jB Tryz.prog 76 [.d (mD a0)] [.b r] := by
 obtain ⟨a0_0, a0_1⟩ := a0
 unfold pW at h
 refine SpI Tryz.func76 fun A _ => ?_
 refine goL ?_
 obtain ⟨x1, hx1, h⟩ := gK h
 refine jH (gF (hAc 5000 (gB.mk a0_0 a0_1) 900 hx1)) ?_
 obtain ⟨b2, hb2, h⟩ := gK h
 refine jU ⟨[(2, .B b2)], [.box [.S a0_0, .L 2 (gM a0_1)]], Tryz.f76.ntmps⟩ ?_ ?_
 ·refine gQ 6 (fun c3 => ?_) (fun c3 => ?_)
  ·replace hb2 := gW c3 hb2
   refine goL ?_
   refine uB ?_
   obtain ⟨x4, hx4, hb2⟩ := gK hb2
   refine jH (gF (hCe 5000 (gB.mk a0_0 a0_1) hx4)) ?_
   refine gQ 10 (fun c5 => ?_) (fun c5 => ?_)
   ·replace hb2 := gW c5 hb2
    refine goL ?_
    refine uB ?_
    obtain ⟨x6, hx6, hb2⟩ := gK hb2
    refine jH (gF (gPp 5000 (gB.mk a0_0 a0_1) hx6)) ?_
    cases hb2
    exact eJ
   ·replace hb2 := gX c5 hb2
    refine goL ?_
    cases hb2
    exact eJ
  ·replace hb2 := gX c3 hb2
   refine goL ?_
   cases hb2
   exact eJ
 exact goR h
def vX (a0 : List (List UInt8)) (a1 : Int) : Option (Bool) :=
bnd ((cnd (decide ((a0.length : Int) ≤ a1)) ((cnd (gH9 a0) (bnd (vR a0) fun x4 =>
(some x4)) ((some false)))) ((some false)))) fun b1 =>
(some b1)
theorem yH (a0 : List (List UInt8)) (a1 : Int) {r : Bool} (h : vX a0 a1 = some r) : jB Tryz.prog 93 [.L 1 (gY a0), .I a1] [.b r] := by
 unfold vX at h
 refine SpI Tryz.func93 fun A _ => ?_
 refine goL ?_
 obtain ⟨b1, hb1, h⟩ := gK h
 refine jU ⟨[(4, .B b1)], [], Tryz.f93.ntmps⟩ ?_ ?_
 ·refine gQ 9 (fun c2 => ?_) (fun c2 => ?_)
  ·replace hb1 := gW c2 hb1
   refine goL ?_
   refine uB ?_
   refine jH (gF (gQ8 a0)) ?_
   refine gQ 13 (fun c3 => ?_) (fun c3 => ?_)
   ·replace hb1 := gW c3 hb1
    refine goL ?_
    refine uB ?_
    obtain ⟨x4, hx4, hb1⟩ := gK hb1
    refine jH (gF (zT a0 hx4)) ?_
    cases hb1
    exact eJ
   ·replace hb1 := gX c3 hb1
    refine goL ?_
    cases hb1
    exact eJ
  ·replace hb1 := gX c2 hb1
   refine goL ?_
   cases hb1
   exact eJ
 exact goR h
def vQ (a0 : gD) : Option (Bool) :=
bnd (gPm 5000 a0 60) fun x1 =>
bnd ((cnd (decide (x1 ≥ 0)) (bnd (gH3 5000 a0) fun x4 =>
(cnd (decide (x4 ≤ 6)) (bnd (gPs 5000 a0) fun x6 =>
(some x6)) ((some false)))) ((some false)))) fun b2 =>
(some b2)
theorem zQ (a0 : gD) {r : Bool} (h : vQ a0 = some r) : jB Tryz.prog 158 [.d (jQ a0)] [.b r] := by
 obtain ⟨a0_0, a0_1, a0_2⟩ := a0
 unfold vQ at h
 refine SpI Tryz.func158 fun A _ => ?_
 refine goL ?_
 obtain ⟨x1, hx1, h⟩ := gK h
 refine jH (gF (hAh 5000 (gD.mk a0_0 a0_1 a0_2) 60 hx1)) ?_
 obtain ⟨b2, hb2, h⟩ := gK h
 refine jU ⟨[(2, .B b2)], [.box [.I a0_0, .S a0_1, .L 3 (gJ a0_2)]], Tryz.f158.ntmps⟩ ?_ ?_
 ·refine gQ 6 (fun c3 => ?_) (fun c3 => ?_)
  ·replace hb2 := gW c3 hb2
   refine goL ?_
   refine uB ?_
   obtain ⟨x4, hx4, hb2⟩ := gK hb2
   refine jH (gF (gQ4 5000 (gD.mk a0_0 a0_1 a0_2) hx4)) ?_
   refine gQ 11 (fun c5 => ?_) (fun c5 => ?_)
   ·replace hb2 := gW c5 hb2
    refine goL ?_
    refine uB ?_
    obtain ⟨x6, hx6, hb2⟩ := gK hb2
    refine jH (gF (hAq 5000 (gD.mk a0_0 a0_1 a0_2) hx6)) ?_
    cases hb2
    exact eJ
   ·replace hb2 := gX c5 hb2
    refine goL ?_
    cases hb2
    exact eJ
  ·replace hb2 := gX c3 hb2
   refine goL ?_
   cases hb2
   exact eJ
 exact goR h
end Go.Proofs.YtfaplndgbgoaaaaGreat
