import Derived.Test.YtfaplndgbgoaaaaGreatEng38
import Derived.Test.YtfaplndgbgoaaaaGreatEng67
import Derived.Test.YtfaplndgbgoaaaaGreatSfi0
import Derived.Test.YtfaplndgbgoaaaaGreatCur
import Derived.Test.YtfaplndgbgoaaaaGreatB2
import Derived.Test.YtfaplndgbgoaaaaGreatUn1
set_option maxHeartbeats 4000000
set_option linter.unusedVariables false
set_option linter.unusedSimpArgs false
set_option linter.unusedSectionVars false
namespace Go.Proofs.YtfaplndgbgoaaaaGreat
open Go Go.Eng
attribute [local irreducible] V VO VQ VY Quiet QR jB kR Rng uX vB qY
def gK3  : Option (gD) :=
bnd (gGe [105, 110, 116] []) fun x1 =>
(some x1)
theorem gW5  {r : gD} (h : gK3  = some r) : jB Tryz.prog 37 [] [jQ r] := by
 unfold gK3 at h
 refine SpI Tryz.func37 fun A _ => ?_
 refine goL ?_
 obtain ⟨⟨x1_0, x1_1, x1_2⟩, hx1, h⟩ := gK h
 refine qQ (gF (gLf [105, 110, 116] [] hx1)) ?_
 exact goR h
def gAv (a0 : gG) (x1 : List gH) (y2 : List mP) : List pO → (List pO) → Option (gG)
 | [], y13 => (some (gG.mk a0.next a0.count a0.node x1 y2 y13 a0.code a0.at_))
 | x18 :: xs, y13 => gd (tok x18.goal.type_) (lt_ (idT x18.goal.type_) fun x20 =>
gd (y13.length + [(pO.mk (jF.mk x18.goal.trait x20) x18.node)].length ≤ 4294967296) (
gAv a0 x1 y2 xs (y13 ++ [(pO.mk (jF.mk x18.goal.trait x20) x18.node)])))
def wS (a0 : gG) (x1 : List gH) : List mP → (List mP) → Option (gG)
 | [], y2 => gAv a0 x1 y2 a0.obligations []
 | x7 :: xs, y2 => gd (tok x7.a) (lt_ (idT x7.a) fun x9 =>
gd (tok x7.b) (lt_ (idT x7.b) fun x11 =>
gd (y2.length + [(mP.mk x9 x11 x7.node)].length ≤ 4294967296) (
wS a0 x1 xs (y2 ++ [(mP.mk x9 x11 x7.node)]))))
def gGh (a0 : gG) : Option (gG) :=
bnd (gMc a0.bindings) fun x1 =>
wS a0 x1 a0.equations []
theorem gVu (a0 : gG) {r : gG} (h : gGh a0 = some r) : jB Tryz.prog 51 [.d (mW a0)] [mW r] := by
 obtain ⟨a0_0, a0_1, a0_2, a0_3, a0_4, a0_5, a0_6, a0_7⟩ := a0
 unfold gGh at h
 refine SpI Tryz.func51 fun A _ => ?_
 refine goL ?_
 obtain ⟨x1, hx1, h⟩ := gK h
 refine jH (gF (hBz a0_3 hx1)) ?_
 refine gAc ?_
 refine goL ?_
 refine noB ?_
 refine vJ 0 4 (fun z5 => ?_)
 refine kQ (fun (y4 : Nat) (y2 : List mP) (v3 : Nat) => ⟨[(1, .ptr 0 0), (2, .ptr 1 0), (3, .ptr 2 0), (4, .N y4)], [.box [.I a0_0, .I a0_1, .I a0_2, .L 4 (gP a0_3), .L 7 (jP a0_4), .L 5 (jG a0_5), .I a0_6, .I a0_7], .box [.I 0, .I 0, .I 0, .nilsl, .nilsl, .nilsl, .I 0, .I 0], .box [.I a0_0, .I a0_1, .I a0_2, .L 4 (gP x1), .sl 3 v3, .L 5 (jG a0_5), .I a0_6, .I a0_7], .arr 104 7 v3 (jP y2)], Tryz.f51.ntmps⟩) (fun y4 y2 v3 => wS (gG.mk a0_0 a0_1 a0_2 a0_3 a0_4 a0_5 a0_6 a0_7) x1 (a0_4.drop y4) y2 = some r) (fun y4 y2 v3 => a0_4.length - y4) 0 [] 0 eJ h ?_
 rintro y4 y2 v3 h
 refine goL ?_
 refine mF (fun c6 => ?_) (fun c6 => ?_)
 ·have hky42 := vO c6
  obtain ⟨x7, hx7, hdx7⟩ := drop_at hky42
  rw [hdx7, wS.eq_2] at h
  obtain ⟨⟨x7_0_0, x7_0_1, x7_0_2⟩, ⟨x7_1_0, x7_1_1, x7_1_2⟩, x7_2⟩ := x7
  refine noS ?_
  refine kD (jC ?_)
  refine vH (P := Tryz.prog) Mix.h [(0, true), (1, true), (2, true), (3, true), (4, true), (5, true), (6, true), (7, true), (8, true), (9, true), (10, true), (11, true), (12, true), (13, true), (14, true), (15, true), (16, true), (17, true), (18, true), (19, true), (20, true), (21, true), (22, true), (23, false), (24, false), (25, true), (26, false)] (by kernel_rfl) ?_
  refine goY ?_
  refine jD rfl (jJ y4 (gNk hx7)) ?_
  refine goY ?_
  obtain ⟨g8, h⟩ := pF h
  obtain ⟨⟨x9_0, x9_1, x9_2⟩, hx9, h⟩ := qU h
  have sx9 := (yB (gD.mk x7_0_0 x7_0_1 x7_0_2) g8).p
  rw [hx9] at sx9
  refine jD rfl (gF (sx9)) ?_
  refine goY ?_
  refine jD rfl (jJ y4 (gNk hx7)) ?_
  refine goY ?_
  obtain ⟨g10, h⟩ := pF h
  obtain ⟨⟨x11_0, x11_1, x11_2⟩, hx11, h⟩ := qU h
  have sx11 := (yB (gD.mk x7_1_0 x7_1_1 x7_1_2) g10).p
  rw [hx11] at sx11
  refine jD rfl (gF (sx11)) ?_
  refine goY ?_
  refine jD rfl (jJ y4 (gNk hx7)) ?_
  refine goY ?_
  refine pY (T := 25) (us := jP [(mP.mk (gD.mk x9_0 x9_1 x9_2) (gD.mk x11_0 x11_1 x11_2) x7_2)]) ?_
  obtain ⟨g12, h⟩ := pF h
  refine pV (T := 25) g12 ?_
  refine goY ?_
  refine kP ?_
  refine goL ?_
  refine jH (jT y4 (by omega)) ?_
  exact ⟨(y4 + 1), (y2 ++ [(mP.mk (gD.mk x9_0 x9_1 x9_2) (gD.mk x11_0 x11_1 x11_2) x7_2)]), (v3 + 1), h, by omega, eJ⟩
 ·have hky42 := vP c6
  rw [jE hky42, wS.eq_1] at h
  refine goX ?_
  refine gAc ?_
  refine goL ?_
  refine noB ?_
  refine vJ 0 5 (fun z16 => ?_)
  refine kQ (fun (y15 : Nat) (y13 : List pO) (v14 : Nat) => ⟨[(1, .ptr 0 0), (2, .ptr 1 0), (3, .ptr 2 0), (5, .N y15)], [.box [.I a0_0, .I a0_1, .I a0_2, .L 4 (gP a0_3), .L 7 (jP a0_4), .L 5 (jG a0_5), .I a0_6, .I a0_7], .box [.I 0, .I 0, .I 0, .nilsl, .nilsl, .nilsl, .I 0, .I 0], .box [.I a0_0, .I a0_1, .I a0_2, .L 4 (gP x1), .sl 3 v3, .sl 4 v14, .I a0_6, .I a0_7], .arr 104 7 v3 (jP y2), .arr 106 5 v14 (jG y13)], Tryz.f51.ntmps⟩) (fun y15 y13 v14 => gAv (gG.mk a0_0 a0_1 a0_2 a0_3 a0_4 a0_5 a0_6 a0_7) x1 y2 (a0_5.drop y15) y13 = some r) (fun y15 y13 v14 => a0_5.length - y15) 0 [] 0 eJ h ?_
  rintro y15 y13 v14 h
  refine goL ?_
  refine mF (fun c17 => ?_) (fun c17 => ?_)
  ·have hky152 := vO c17
   obtain ⟨x18, hx18, hdx18⟩ := drop_at hky152
   rw [hdx18, gAv.eq_2] at h
   obtain ⟨⟨x18_0_0, ⟨x18_0_1_0, x18_0_1_1, x18_0_1_2⟩⟩, x18_1⟩ := x18
   refine noS ?_
   refine kD (jC ?_)
   refine goL ?_
   refine qQ (jJ y15 (gNl hx18)) ?_
   refine gIx ?_
   refine vH (P := Tryz.prog) Mix.h [(0, true), (1, true), (2, true), (3, true), (4, true), (5, true), (6, true), (7, true), (8, true), (9, true), (10, true), (11, true), (12, true), (13, true), (14, true), (15, false), (16, false), (17, true), (18, false)] (by kernel_rfl) ?_
   refine goY ?_
   obtain ⟨g19, h⟩ := pF h
   obtain ⟨⟨x20_0, x20_1, x20_2⟩, hx20, h⟩ := qU h
   have sx20 := (yB (gD.mk x18_0_1_0 x18_0_1_1 x18_0_1_2) g19).p
   rw [hx20] at sx20
   refine jD rfl (gF (sx20)) ?_
   refine goY ?_
   refine jD rfl (jJ y15 (gNl hx18)) ?_
   refine goY ?_
   refine pY (T := 26) (us := jG [(pO.mk (jF.mk x18_0_0 (gD.mk x20_0 x20_1 x20_2)) x18_1)]) ?_
   obtain ⟨g21, h⟩ := pF h
   refine pV (T := 26) g21 ?_
   refine goY ?_
   refine kP ?_
   refine goL ?_
   refine jH (jT y15 (by omega)) ?_
   exact ⟨(y15 + 1), (y13 ++ [(pO.mk (jF.mk x18_0_0 (gD.mk x20_0 x20_1 x20_2)) x18_1)]), (v14 + 1), h, by omega, eJ⟩
  ·have hky152 := vP c17
   rw [jE hky152, gAv.eq_1] at h
   refine goX ?_
   refine kI 3 rfl rfl ?_
   refine kI 4 rfl rfl ?_
   refine jN ?_
   cases h
   exact qH
def gCu (a0 : List UInt8) (a1 : gD) : Option (Bool) :=
bnd (qK 5000 a1 a0) fun x1 =>
(some (decide (x1 > 0)))
theorem gMx (a0 : List UInt8) (a1 : gD) {r : Bool} (h : gCu a0 a1 = some r) : jB Tryz.prog 72 [.S a0, .d (jQ a1)] [.b r] := by
 obtain ⟨a1_0, a1_1, a1_2⟩ := a1
 unfold gCu at h
 refine SpI Tryz.func72 fun A _ => ?_
 refine goL ?_
 obtain ⟨x1, hx1, h⟩ := gK h
 refine qQ (gF (gI9 5000 (gD.mk a1_0 a1_1 a1_2) a0 hx1)) ?_
 exact goR h
def pJ (a1 : jF) : List jK → Nat → Int
 | [], y1 => (-1)
 | x4 :: xs, y1 => (cnd (gDu x4.goal a1) (
(y1 : Int)) (
pJ a1 xs (y1 + 1)))
def qC (a0 : List jK) (a1 : jF) : Int :=
pJ a1 a0 0
theorem gK4 (a0 : List jK) (a1 : jF) : jB Tryz.prog 145 [.L 6 (kX a0), .d (gAi a1)] [.i .i64 (qC a0 a1)] := by
 obtain ⟨r, h⟩ : ∃ r, qC a0 a1 = r := ⟨_, rfl⟩
 rw [h]
 obtain ⟨a1_0, ⟨a1_1_0, a1_1_1, a1_1_2⟩⟩ := a1
 unfold qC at h
 refine SpI Tryz.func145 fun A _ => ?_
 refine goL ?_
 refine noB ?_
 refine gEk 0 (fun z2 => ?_)
 refine mY (fun (y1 : Nat) => ⟨[(0, .L 6 (kX a0)), (3, .ptr 0 0), (5, .N y1)], [.box [.S a1_0, .I a1_1_0, .S a1_1_1, .L 3 (gJ a1_1_2)]], Tryz.f145.ntmps⟩) (fun y1 => pJ (jF.mk a1_0 (gD.mk a1_1_0 a1_1_1 a1_1_2)) (a0.drop y1) y1 = r) (fun y1 => a0.length - y1) 0 eJ h ?_
 rintro y1 h
 refine goL ?_
 refine mF (fun c3 => ?_) (fun c3 => ?_)
 ·have hky12 := vO c3
  obtain ⟨x4, hx4, hdx4⟩ := drop_at hky12
  rw [hdx4, pJ.eq_2] at h
  obtain ⟨⟨x4_0_0, ⟨x4_0_1_0, x4_0_1_1, x4_0_1_2⟩⟩, x4_1, x4_2⟩ := x4
  refine noS ?_
  refine kD (jC ?_)
  refine goL ?_
  refine gCr (jJ y1 (gJr hx4)) ?_
  refine goL ?_
  refine gCr (gF (gRw (jF.mk x4_0_0 (gD.mk x4_0_1_0 x4_0_1_1 x4_0_1_2)) (jF.mk a1_0 (gD.mk a1_1_0 a1_1_1 a1_1_2)))) ?_
  refine goC h ?_ ?_<;>intro c5 h
  ·refine goL ?_
   refine jN ?_
   subst h
   exact qH
  ·refine goS ?_
   refine jH (jT y1 (by omega)) ?_
   exact ⟨(y1 + 1), h, by omega, eJ⟩
 ·have hky12 := vP c3
  rw [jE hky12, pJ.eq_1] at h
  refine goX ?_
  refine jN ?_
  subst h
  exact qH
def qN : List Int → Int → Int → Int → Int → (List gU) → Option (gU)
 | [], y2, y3, y4, y5, y6 => (some (gU.mk y2 y3 (gT.mk y4 y5) y6))
 | x11 :: xs, y2, y3, y4, y5, y6 => qN xs 3 x11 0 0 [(gU.mk y2 y3 (gT.mk y4 y5) y6)]
def uG (a0 : gU) (a1 : List Int) : Option (gU) :=
bnd (gGq 5000 a0) fun x1 =>
qN a1 x1.kind x1.n x1.at_.package x1.at_.at_ x1.args
theorem gE2 (a0 : gU) (a1 : List Int) {r : gU} (h : uG a0 a1 = some r) : kR Tryz.prog 146 [.d (mV a0), .L 1 (gK8 a1)] [171] [mV r] := by
 obtain ⟨a0_0, a0_1, ⟨a0_2_0, a0_2_1⟩, a0_3⟩ := a0
 unfold uG at h
 refine qJ Tryz.func146 rfl (by kernel_rfl) rfl (by simp) fun A _ => ?_
 refine goL ?_
 obtain ⟨⟨x1_0, x1_1, ⟨x1_2_0, x1_2_1⟩, x1_3⟩, hx1, h⟩ := gK h
 refine gI7 (gY3 5000 (gU.mk a0_0 a0_1 (gT.mk a0_2_0 a0_2_1) a0_3) hx1) ?_
 refine goL ?_
 refine noB ?_
 refine gEk 1 (fun z9 => ?_)
 refine hBp (fun (y8 : Nat) (y2 : Int) (y3 : Int) (y4 : Int) (y5 : Int) (y6 : List gU) (v7 : Nat) => ⟨[(1, .L 1 (gK8 a1)), (4, .ptr 1 0), (5, .ptr 3 0), (6, .N y8)], [.box [.I a0_0, .I a0_1, .I a0_2_0, .I a0_2_1, .L 5 (qE a0_3)], .box [.I 0, .I 0, .I 0, .I 0, .nilsl], .own 171 5 v7 (qE y6), .box [.I y2, .I y3, .I y4, .I y5, .sl 2 v7]], Tryz.f146.ntmps⟩) (fun y8 y2 y3 y4 y5 y6 v7 => qN (a1.drop y8) y2 y3 y4 y5 y6 = some r) (fun y8 y2 y3 y4 y5 y6 v7 => a1.length - y8) 0 x1_0 x1_1 x1_2_0 x1_2_1 x1_3 0 eJ h ?_
 rintro y8 y2 y3 y4 y5 y6 v7 h
 refine goL ?_
 refine mF (fun c10 => ?_) (fun c10 => ?_)
 ·have hky82 := vO c10
  obtain ⟨x11, hx11, hdx11⟩ := drop_at hky82
  rw [hdx11, qN.eq_2] at h
  refine noS ?_
  refine kD (jC ?_)
  refine vH (P := Tryz.prog) Mix.h [(0, true), (1, true), (2, true), (3, true), (4, true), (5, false), (6, true), (7, false)] (by kernel_rfl) ?_
  refine goY ?_
  refine jD rfl (jJ y8 (hSi hx11)) ?_
  refine goY ?_
  refine gRm (T := 169) (gU.mk y2 y3 (gT.mk y4 y5) y6) ?_
  refine goY ?_
  refine kP ?_
  refine goL ?_
  refine jH (jT y8 (by omega)) ?_
  exact ⟨(y8 + 1), 3, x11, 0, 0, [(gU.mk y2 y3 (gT.mk y4 y5) y6)], 0, h, by omega, vC 0 [0, 1, 4, 3]⟩
 ·have hky82 := vP c10
  rw [jE hky82, qN.eq_1] at h
  refine goX ?_
  refine jN ?_
  obtain rfl := Option.some.inj h
  exact gOf
def gEg (rec_l19Steps : gI → (List UInt8) → (List UInt8) → Int → Option (List Int × Bool)) (a0 : gI) (a2 : List UInt8) (a3 : Int) (x2 : qW × Int × Bool) : Nat → Int → Option (List Int × Bool)
 | 0, y3 => none
 | n4 + 1, y3 => lt_ ((cnd (decide (y3 < (x2.1.supertraits.length : Int))) ((decide (a3 > 0))) (false))) fun b5 =>
(cnd b5 (
bnd (at? x2.1.supertraits y3) fun x8 =>
bnd (rec_l19Steps a0 x8 a2 (IntKind.i64.wrap (a3 - 1))) fun x9 =>
(cnd x9.2 (
gd ([y3].length + x9.1.length ≤ 4294967296) (
(some (([y3] ++ x9.1), true)))) (
gEg rec_l19Steps a0 a2 a3 x2 n4 (IntKind.i64.wrap (y3 + 1))))) (
(some ([], false))))
def gK5 (rec_l19Steps : gI → (List UInt8) → (List UInt8) → Int → Option (List Int × Bool)) (a0 : gI) (a1 : List UInt8) (a2 : List UInt8) (a3 : Int) (n0 : Nat) : Option (List Int × Bool) :=
(cnd (a1 == a2) (
(some ([], true))) (
lt_ (vT a0 a1) fun x2 =>
gEg rec_l19Steps a0 a2 a3 x2 n0 0))
theorem gVv {rec_l19Steps : gI → (List UInt8) → (List UInt8) → Int → Option (List Int × Bool)} (hrec_l19Steps : ∀ (x0 : gI) (x1 : List UInt8) (x2 : List UInt8) (x3 : Int) {r : List Int × Bool}, rec_l19Steps x0 x1 x2 x3 = some r → jB Tryz.prog 166 [.d (kS x0), .S x1, .S x2, .I x3] [.sl 1 (gK8 r.1), .b r.2]) (a0 : gI) (a1 : List UInt8) (a2 : List UInt8) (a3 : Int) {n0 : Nat} {r : List Int × Bool} (h : gK5 rec_l19Steps a0 a1 a2 a3 n0 = some r) : jB Tryz.prog 166 [.d (kS a0), .S a1, .S a2, .I a3] [.sl 1 (gK8 r.1), .b r.2] := by
 obtain ⟨a0_0⟩ := a0
 unfold gK5 at h
 refine SpI Tryz.func166 fun A _ => ?_
 refine goC h ?_ ?_<;>intro c1 h
 ·refine goL ?_
  refine gFh ?_
  refine goL ?_
  refine wI 1 rfl rfl ?_
  refine jN ?_
  cases h
  exact qH
 ·refine goS ?_
  obtain ⟨⟨⟨x2_0_0, x2_0_1, x2_0_2, x2_0_3, x2_0_4⟩, x2_1, x2_2⟩, hx2, h⟩ := qU h
  have sx2 := gIh (gI.mk a0_0) a1
  rw [hx2] at sx2
  refine jH (gF (sx2)) ?_
  refine noB ?_
  refine gCx (fun (n4 : Nat) (y3 : Int) => ⟨[(2, .S a2), (3, .I a3), (4, .ptr 0 0), (10, .ptr 1 0), (13, .I y3)], [.box [.L 6 (kK a0_0)], .box [.S x2_0_0, .L 1 (gY x2_0_1), .B x2_0_2, .B x2_0_3, .L 16 (kT x2_0_4)]], Tryz.f166.ntmps⟩) (fun n4 y3 => gEg rec_l19Steps (gI.mk a0_0) a2 a3 ((qW.mk x2_0_0 x2_0_1 x2_0_2 x2_0_3 x2_0_4), x2_1, x2_2) n4 y3 = some r) (fun n4 y3 => n4) n0 0 eJ h ?_
  rintro n4 y3 h
  rcases n4 with _ | n4
  ·cases h
  rw [gEg.eq_2] at h
  refine goL ?_
  obtain ⟨b5, hb5, h⟩ := qU h
  refine jU ⟨[(2, .S a2), (3, .I a3), (4, .ptr 0 0), (10, .ptr 1 0), (13, .I y3), (35, .B b5)], [.box [.L 6 (kK a0_0)], .box [.S x2_0_0, .L 1 (gY x2_0_1), .B x2_0_2, .B x2_0_3, .L 16 (kT x2_0_4)]], Tryz.f166.ntmps⟩ ?_ ?_
  ·refine gQ 32 (fun c6 => ?_) (fun c6 => ?_)
   ·replace hb5 := gW c6 hb5
    refine goL ?_
    cases hb5
    exact eJ
   ·replace hb5 := gX c6 hb5
    refine goL ?_
    cases hb5
    exact eJ
  refine goC h ?_ ?_<;>intro c7 h
  ·refine noS ?_
   refine kD (jC ?_)
   refine goL ?_
   obtain ⟨x8, hx8, h⟩ := gK h
   obtain ⟨hx80, hx8⟩ := gD9 hx8
   refine gCr (qV hx80 (gOl hx8)) ?_
   refine goL ?_
   refine gCr (qG) ?_
   obtain ⟨⟨x9_0, x9_1⟩, hx9, h⟩ := gK h
   refine gCr (gF (hrec_l19Steps (gI.mk a0_0) x8 a2 (IntKind.i64.wrap (a3 - 1)) hx9)) ?_
   refine goC h ?_ ?_<;>intro c10 h
   ·refine goL ?_
    refine gA7 y3 ?_
    refine goL ?_
    obtain ⟨g11, h⟩ := pF h
    refine gGo g11 ?_
    refine goL ?_
    refine wI 2 rfl rfl ?_
    refine jN ?_
    cases h
    exact qH
   ·refine goS ?_
    refine jH (qG) ?_
    exact ⟨n4, (IntKind.i64.wrap (y3 + 1)), h, Nat.lt_succ_self _, eJ⟩
  ·refine goX ?_
   refine gFh ?_
   refine goL ?_
   refine wI 2 rfl rfl ?_
   refine jN ?_
   cases h
   exact qH
def gK6 : Nat → gI → (List UInt8) → (List UInt8) → Int → Option (List Int × Bool)
 | 0, _, _, _, _ => none
 | n + 1, x0, x1, x2, x3 => gK5 (gK6 n) x0 x1 x2 x3 n
theorem gVw : ∀ (n : Nat) (x0 : gI) (x1 : List UInt8) (x2 : List UInt8) (x3 : Int) {r : List Int × Bool}, gK6 n x0 x1 x2 x3 = some r → jB Tryz.prog 166 [.d (kS x0), .S x1, .S x2, .I x3] [.sl 1 (gK8 r.1), .b r.2] := by
 intro n
 induction n with
 | zero => intro x0 x1 x2 x3 r h; cases h
 | succ n ih => intro x0 x1 x2 x3 r h; exact gVv ih x0 x1 x2 x3 h
def kJ (a0 : gI) (a1 : jF) : List gT → (List gT) → Option (List gT)
 | [], y2 => (some y2)
 | x7 :: xs, y2 => bnd (at? a0.packages x7.package) fun x8 =>
bnd (at? x8.instances x7.at_) fun x9 =>
bnd ((cnd (x9.trait == a1.trait) (bnd (zV x9.head a1.type_) fun x12 =>
(some x12)) ((some false)))) fun b10 =>
(cnd b10 (
gd (y2.length + [x7].length ≤ 4294967296) (
kJ a0 a1 xs (y2 ++ [x7]))) (
kJ a0 a1 xs y2))
def uT (a0 : gI) (a1 : jF) : Option (List gT) :=
bnd (gAm a0) fun x1 =>
kJ a0 a1 x1 []
theorem gH0 (a0 : gI) (a1 : jF) {r : List gT} (h : uT a0 a1 = some r) : jB Tryz.prog 179 [.d (kS a0), .d (gAi a1)] [.sl 2 (mU r)] := by
 obtain ⟨a0_0⟩ := a0
 obtain ⟨a1_0, ⟨a1_1_0, a1_1_1, a1_1_2⟩⟩ := a1
 unfold uT at h
 refine SpI Tryz.func179 fun A _ => ?_
 refine goL ?_
 refine gAc ?_
 refine goL ?_
 obtain ⟨x1, hx1, h⟩ := gK h
 refine jH (gF (gNw (gI.mk a0_0) hx1)) ?_
 refine noB ?_
 refine gEk 6 (fun z5 => ?_)
 refine kQ (fun (y4 : Nat) (y2 : List gT) (v3 : Nat) => ⟨[(2, .ptr 0 0), (3, .ptr 1 0), (5, .sl 2 v3), (6, .L 2 (mU x1)), (7, .N y4)], [.box [.L 6 (kK a0_0)], .box [.S a1_0, .I a1_1_0, .S a1_1_1, .L 3 (gJ a1_1_2)], .arr 168 2 v3 (mU y2)], Tryz.f179.ntmps⟩) (fun y4 y2 v3 => kJ (gI.mk a0_0) (jF.mk a1_0 (gD.mk a1_1_0 a1_1_1 a1_1_2)) (x1.drop y4) y2 = some r) (fun y4 y2 v3 => x1.length - y4) 0 [] 0 eJ h ?_
 rintro y4 y2 v3 h
 refine goL ?_
 refine mF (fun c6 => ?_) (fun c6 => ?_)
 ·have hky42 := vO c6
  obtain ⟨x7, hx7, hdx7⟩ := drop_at hky42
  rw [hdx7, kJ.eq_2] at h
  obtain ⟨x7_0, x7_1⟩ := x7
  refine noS ?_
  refine kD (jC ?_)
  refine jL (P := Tryz.prog) Mix.h [(0, true), (1, true), (2, true), (3, true), (4, true), (5, true), (6, true), (7, true), (8, true), (9, true), (10, true), (11, true), (12, true), (13, true), (14, true), (15, true), (16, true), (17, false), (18, false)] (by kernel_rfl) ?_
  refine goY ?_
  refine jD rfl (jJ y4 (yT hx7)) ?_
  refine goY ?_
  obtain ⟨x8, hx8, h⟩ := gK h
  obtain ⟨hx80, hx8⟩ := gD9 hx8
  obtain ⟨x8_0, x8_1, x8_2, x8_3, x8_4, x8_5⟩ := x8
  refine jD rfl (qV hx80 (gDa hx8)) ?_
  refine goY ?_
  refine jD rfl (jJ y4 (yT hx7)) ?_
  refine goY ?_
  obtain ⟨x9, hx9, h⟩ := gK h
  obtain ⟨hx90, hx9⟩ := gD9 hx9
  obtain ⟨x9_0, x9_1, ⟨x9_2_0, x9_2_1, x9_2_2⟩, x9_3, x9_4, x9_5, ⟨x9_6_0, x9_6_1, x9_6_2⟩, x9_7⟩ := x9
  refine jD rfl (qV hx90 (gGn hx9)) ?_
  refine goY ?_
  refine kP ?_
  refine goL ?_
  obtain ⟨b10, hb10, h⟩ := gK h
  refine jU ⟨[(2, .ptr 0 0), (3, .ptr 1 0), (5, .sl 2 v3), (6, .L 2 (mU x1)), (7, .N y4), (46, .B b10)], [.box [.L 6 (kK a0_0)], .box [.S a1_0, .I a1_1_0, .S a1_1_1, .L 3 (gJ a1_1_2)], .arr 168 2 v3 (mU y2), .box [.S x9_0, .L 1 (gY x9_1), .I x9_2_0, .S x9_2_1, .L 3 (gJ x9_2_2), .L 4 (jV x9_3), .B x9_4, .B x9_5, .I x9_6_0, .S x9_6_1, .L 3 (gJ x9_6_2), .L 11 (mR x9_7)]], Tryz.f179.ntmps⟩ ?_ ?_
  ·refine gQ 40 (fun c11 => ?_) (fun c11 => ?_)
   ·replace hb10 := gW c11 hb10
    refine goL ?_
    refine uB ?_
    obtain ⟨x12, hx12, hb10⟩ := gK hb10
    refine jH (gF (gOw (gD.mk x9_2_0 x9_2_1 x9_2_2) (gD.mk a1_1_0 a1_1_1 a1_1_2) hx12)) ?_
    cases hb10
    exact eJ
   ·replace hb10 := gX c11 hb10
    refine goL ?_
    cases hb10
    exact eJ
  refine goC h ?_ ?_<;>intro c13 h
  ·refine goL ?_
   refine jH (jJ y4 (yT hx7)) ?_
   refine gBc (u := (.st [.i .i64 x7_0, .i .i64 x7_1])) ?_
   obtain ⟨g14, h⟩ := pF h
   refine gBu g14 ?_
   refine goL ?_
   refine jH (jT y4 (by omega)) ?_
   exact ⟨(y4 + 1), (y2 ++ [(gT.mk x7_0 x7_1)]), (v3 + 1), h, by omega, eJ⟩
  ·refine goS ?_
   refine jH (jT y4 (by omega)) ?_
   exact ⟨(y4 + 1), y2, v3, h, by omega, eJ⟩
 ·have hky42 := vP c6
  rw [jE hky42, kJ.eq_1] at h
  refine goX ?_
  refine kI 2 rfl rfl ?_
  refine jN ?_
  cases h
  exact qH
def uU (a0 : gD) (a1 : gD) : Option (Bool) :=
bnd (qZ a0 a1) fun x1 =>
bnd ((cnd x1 (bnd (qZ a1 a0) fun x4 =>
(some (!x4))) ((some false)))) fun b2 =>
(some b2)
theorem gMy (a0 : gD) (a1 : gD) {r : Bool} (h : uU a0 a1 = some r) : jB Tryz.prog 180 [.d (jQ a0), .d (jQ a1)] [.b r] := by
 obtain ⟨a0_0, a0_1, a0_2⟩ := a0
 obtain ⟨a1_0, a1_1, a1_2⟩ := a1
 unfold uU at h
 refine SpI Tryz.func180 fun A _ => ?_
 refine goL ?_
 obtain ⟨x1, hx1, h⟩ := gK h
 refine jH (gF (gEb (gD.mk a0_0 a0_1 a0_2) (gD.mk a1_0 a1_1 a1_2) hx1)) ?_
 obtain ⟨b2, hb2, h⟩ := gK h
 refine jU ⟨[(4, .B b2)], [.box [.I a0_0, .S a0_1, .L 3 (gJ a0_2)], .box [.I a1_0, .S a1_1, .L 3 (gJ a1_2)]], Tryz.f180.ntmps⟩ ?_ ?_
 ·refine gQ 8 (fun c3 => ?_) (fun c3 => ?_)
  ·replace hb2 := gW c3 hb2
   refine goL ?_
   refine uB ?_
   obtain ⟨x4, hx4, hb2⟩ := gK hb2
   refine jH (gF (gEb (gD.mk a1_0 a1_1 a1_2) (gD.mk a0_0 a0_1 a0_2) hx4)) ?_
   cases hb2
   exact eJ
  ·replace hb2 := gX c3 hb2
   refine goL ?_
   cases hb2
   exact eJ
 exact goR h
def zU (rec_l19Supers : gI → (List UInt8) → (List (List UInt8)) → Option (List (List UInt8))) (w : gI) : List (List UInt8) → (List (List UInt8)) → Option (List (List UInt8))
 | [], y2 => (some y2)
 | x7 :: xs, y2 => (cnd (!(vN y2 x7)) (
gd (y2.length + [x7].length ≤ 4294967296) (
bnd (rec_l19Supers w x7 (y2 ++ [x7])) fun x10 =>
zU rec_l19Supers w xs x10)) (
zU rec_l19Supers w xs y2))
def gJm (rec_l19Supers : gI → (List UInt8) → (List (List UInt8)) → Option (List (List UInt8))) (w : gI) (name : List UInt8) (l0 : List (List UInt8)) : Option (List (List UInt8)) :=
lt_ (vT w name) fun x1 =>
zU rec_l19Supers w x1.1.supertraits l0
theorem gSu {rec_l19Supers : gI → (List UInt8) → (List (List UInt8)) → Option (List (List UInt8))} (hrec_l19Supers : ∀ (x0 : gI) (x1 : List UInt8) (x2 : List (List UInt8)) (w0 : Nat) {r : List (List UInt8)}, rec_l19Supers x0 x1 x2 = some r → Go.Eng.Spec Tryz.prog 168 [.d (kS x0), .S x1, .sl 0 w0] [.own 9 1 w0 (gY x2)] (fun sv Lo => ∃ v'0, sv = .sl 0 v'0 ∧ Lo = [.own 9 1 v'0 (gY r)])) (w : gI) (name : List UInt8) (l0 : List (List UInt8)) (v0 : Nat) {r : List (List UInt8)} (h : gJm rec_l19Supers w name l0 = some r) : Go.Eng.Spec Tryz.prog 168 [.d (kS w), .S name, .sl 0 v0] [.own 9 1 v0 (gY l0)] (fun sv Lo => ∃ v'0, sv = .sl 0 v'0 ∧ Lo = [.own 9 1 v'0 (gY r)]) := by
 obtain ⟨w_0⟩ := w
 unfold gJm at h
 refine kY 1 Tryz.func168 rfl (by kernel_rfl) rfl rfl fun A _ => ?_
 refine goL ?_
 obtain ⟨⟨⟨x1_0_0, x1_0_1, x1_0_2, x1_0_3, x1_0_4⟩, x1_1, x1_2⟩, hx1, h⟩ := qU h
 have sx1 := gIh (gI.mk w_0) name
 rw [hx1] at sx1
 refine jH (gF (sx1)) ?_
 refine noB ?_
 refine vJ 2 1 (fun z5 => ?_)
 refine kQ (fun (y4 : Nat) (y2 : List (List UInt8)) (v3 : Nat) => ⟨[(2, .sl 0 v3), (3, .ptr 1 0), (7, .ptr 2 0), (10, .N y4)], [.own 9 1 v3 (gY y2), .box [.L 6 (kK w_0)], .box [.S x1_0_0, .L 1 (gY x1_0_1), .B x1_0_2, .B x1_0_3, .L 16 (kT x1_0_4)]], Tryz.f168.ntmps⟩) (fun y4 y2 v3 => zU rec_l19Supers (gI.mk w_0) (x1_0_1.drop y4) y2 = some r) (fun y4 y2 v3 => x1_0_1.length - y4) 0 l0 v0 eJ h ?_
 rintro y4 y2 v3 h
 refine goL ?_
 refine mF (fun c6 => ?_) (fun c6 => ?_)
 ·have hky42 := vO c6
  obtain ⟨x7, hx7, hdx7⟩ := drop_at hky42
  rw [hdx7, zU.eq_2] at h
  refine noS ?_
  refine kD (jC ?_)
  refine goL ?_
  refine jH (jJ y4 (gOl hx7)) ?_
  refine gFj (gSm (gD1 y2 x7)) ?_
  refine mF (fun c8 => ?_) (fun c8 => ?_)
  ·replace h := gW c8 h
   refine vH (P := Tryz.prog) Mix.h [(0, true), (1, true), (2, true), (3, true), (4, true), (5, true), (6, true), (7, true), (8, true), (9, true), (10, true), (11, true), (12, false), (13, false), (14, false), (15, true)] (by kernel_rfl) ?_
   refine goY ?_
   refine jD rfl (jJ y4 (gOl hx7)) ?_
   refine goY ?_
   refine jD rfl (jJ y4 (gOl hx7)) ?_
   refine goY ?_
   refine gRm (T := 53) (x7 : List UInt8) ?_
   obtain ⟨g9, h⟩ := pF h
   refine gP8 (T := 53) g9 ?_
   obtain ⟨x10, hx10, h⟩ := gK h
   refine gYp [0] (hrec_l19Supers (gI.mk w_0) x7 (y2 ++ [x7]) (v3 + 1) hx10) ?_
   rintro _ _ ⟨v11, rfl, rfl⟩
   refine gUp (sv := .sl 0 v11) (L' := [.own 9 1 v11 (gY x10), .box [.L 6 (kK w_0)], .box [.S x1_0_0, .L 1 (gY x1_0_1), .B x1_0_2, .B x1_0_3, .L 16 (kT x1_0_4)], .dead 1]) (by repeat (first | exact zL.nil | (apply zL.keep; focus ((repeat constructor); done)) | (apply zL.dep; focus kernel_rfl))) ?_
   refine goY ?_
   refine kP ?_
   refine goL ?_
   refine jH (jT y4 (by omega)) ?_
   exact ⟨(y4 + 1), x10, v11, h, by omega, eJ⟩
  ·replace h := gX c8 h
   refine goS ?_
   refine jH (jT y4 (by omega)) ?_
   exact ⟨(y4 + 1), y2, v3, h, by omega, eJ⟩
 ·have hky42 := vP c6
  rw [jE hky42, zU.eq_1] at h
  refine goX ?_
  refine jN ?_
  obtain rfl := Option.some.inj h
  exact gEl [.sl 0 v3] [.own 9 1 v3 (gY y2)] ⟨v3, rfl, rfl⟩
def gJn : Nat → gI → (List UInt8) → (List (List UInt8)) → Option (List (List UInt8))
 | 0, _, _, _ => none
 | n + 1, x0, x1, x2 => gJm (gJn n) x0 x1 x2
theorem gSv : ∀ (n : Nat) (x0 : gI) (x1 : List UInt8) (x2 : List (List UInt8)) (w0 : Nat) {r : List (List UInt8)}, gJn n x0 x1 x2 = some r → Go.Eng.Spec Tryz.prog 168 [.d (kS x0), .S x1, .sl 0 w0] [.own 9 1 w0 (gY x2)] (fun sv Lo => ∃ v'0, sv = .sl 0 v'0 ∧ Lo = [.own 9 1 v'0 (gY r)]) := by
 intro n
 induction n with
 | zero => intro x0 x1 x2 w0 r h; cases h
 | succ n ih => intro x0 x1 x2 w0 r h; exact gSu ih x0 x1 x2 w0 h
def gBi (a0 : gI) (a1 : gT) : Option (jZ × Bool) :=
bnd ((cnd (!(gFl a1.package 0 (IntKind.i64.wrap ((a0.packages.length : Int) - 1)))) ((some true)) (bnd (at? a0.packages a1.package) fun x3 =>
(some (!(gFl a1.at_ 0 (IntKind.i64.wrap ((x3.instances.length : Int) - 1)))))))) fun b1 =>
(cnd b1 (
(some ((jZ.mk [] [] (gD.mk 0 [] []) [] false false (gD.mk 0 [] []) []), false))) (
bnd (at? a0.packages a1.package) fun x5 =>
bnd (at? x5.instances a1.at_) fun x6 =>
(some (x6, true))))
theorem gSw (a0 : gI) (a1 : gT) {r : jZ × Bool} (h : gBi a0 a1 = some r) : jB Tryz.prog 122 [.d (kS a0), .d (wU a1)] [gCl r.1, .b r.2] := by
 obtain ⟨a0_0⟩ := a0
 obtain ⟨a1_0, a1_1⟩ := a1
 unfold gBi at h
 refine SpI Tryz.func122 fun A _ => ?_
 refine gIx ?_
 obtain ⟨b1, hb1, h⟩ := gK h
 refine qP (P := Tryz.prog) Mix.h ⟨[(2, .ptr 0 0), (3, .ptr 1 0), (4, .ptr 2 0), (28, .B b1)], [.box [.L 6 (kK a0_0)], .box [.I a1_0, .I a1_1], .box [.S [], .nilsl, .I 0, .S [], .nilsl, .nilsl, .B false, .B false, .I 0, .S [], .nilsl, .nilsl]], Tryz.f122.ntmps⟩ (by kernel_rfl) ?_ ?_
 ·refine goL ?_
  refine gCr (qG) ?_
  refine gCr (gF (gLr a1_0 0 (IntKind.i64.wrap ((a0_0.length : Int) - 1)))) ?_
  refine goL ?_
  refine wN 14 (fun c2 => ?_) (fun c2 => ?_)
  ·replace hb1 := gW c2 hb1
   refine goL ?_
   cases hb1
   exact eJ
  ·replace hb1 := gX c2 hb1
   refine goL ?_
   obtain ⟨x3, hx3, hb1⟩ := gK hb1
   obtain ⟨hx30, hx3⟩ := gD9 hx3
   obtain ⟨x3_0, x3_1, x3_2, x3_3, x3_4, x3_5⟩ := x3
   refine gBo (qV hx30 (gDa hx3)) ?_
   refine goL ?_
   refine gBo (qG) ?_
   refine gBo (gF (gLr a1_1 0 (IntKind.i64.wrap ((x3_4.length : Int) - 1)))) ?_
   refine goL ?_
   cases hb1
   exact eJ
 refine goC h ?_ ?_<;>intro c4 h
 ·refine goL ?_
  refine gBm (kE TBd.h TZ.h rfl (by repeat constructor)) ?_
  exact goR h
 ·refine noS ?_
  refine jL (P := Tryz.prog) Mix.h [(0, true), (1, true), (2, true), (3, true), (4, true), (5, true), (6, true), (7, true), (8, true), (9, true), (10, true), (11, false), (12, true)] (by kernel_rfl) ?_
  refine goY ?_
  obtain ⟨x5, hx5, h⟩ := gK h
  obtain ⟨hx50, hx5⟩ := gD9 hx5
  obtain ⟨x5_0, x5_1, x5_2, x5_3, x5_4, x5_5⟩ := x5
  refine jD rfl (qV hx50 (gDa hx5)) ?_
  refine goY ?_
  obtain ⟨x6, hx6, h⟩ := gK h
  obtain ⟨hx60, hx6⟩ := gD9 hx6
  obtain ⟨x6_0, x6_1, ⟨x6_2_0, x6_2_1, x6_2_2⟩, x6_3, x6_4, x6_5, ⟨x6_6_0, x6_6_1, x6_6_2⟩, x6_7⟩ := x6
  refine jD rfl (qV hx60 (gGn hx6)) ?_
  refine goY ?_
  refine kP ?_
  exact goR h
end Go.Proofs.YtfaplndgbgoaaaaGreat
