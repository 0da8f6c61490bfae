import Derived.Test.YtfaplndgbgoaaaaGreatEng38
import Derived.Test.YtfaplndgbgoaaaaGreatEng67
import Derived.Test.YtfaplndgbgoaaaaGreatVr
import Derived.Test.YtfaplndgbgoaaaaGreatSfi0
import Derived.Test.YtfaplndgbgoaaaaGreatB3
import Derived.Test.YtfaplndgbgoaaaaGreatUn1
set_option maxHeartbeats 4000000
set_option linter.unusedVariables false
set_option linter.unusedSimpArgs false
set_option linter.unusedSectionVars false
namespace Go.Proofs.YtfaplndgbgoaaaaGreat
open Go Go.Eng
attribute [local irreducible] V VO VQ VY Quiet QR jB kR Rng uX vB qY
def gAg (rec_sEqualExpr : jO → jO → Option (Bool)) (a1 : jO) : List gJq → Nat → Option (Bool)
 | [], y16 => (some true)
 | x19 :: xs, y16 => bnd (bnd (at? a1.arms (y16 : Int)) fun x21 =>
(cnd (!(x19.constructor == x21.constructor)) ((some true)) (bnd (gK1 x19.vars x21.vars) fun x23 =>
(cnd (!x23) ((some true)) (bnd (rec_sEqualExpr x19.body x21.body) fun x25 =>
(some (!x25))))))) fun b20 =>
(cnd b20 (
(some false)) (
gAg rec_sEqualExpr a1 xs (y16 + 1)))
def gAh (rec_sEqualExpr : jO → jO → Option (Bool)) (a0 : jO) (a1 : jO) : List jO → Nat → Option (Bool)
 | [], y9 => gAg rec_sEqualExpr a1 a0.arms 0
 | x12 :: xs, y9 => bnd (at? a1.args (y9 : Int)) fun x13 =>
bnd (rec_sEqualExpr x12 x13) fun x14 =>
(cnd (!x14) (
(some false)) (
gAh rec_sEqualExpr a0 a1 xs (y9 + 1)))
def gH4 (rec_sEqualExpr : jO → jO → Option (Bool)) (a0 : jO) (a1 : jO) : Option (Bool) :=
lt_ ((cnd (a0.kind != a1.kind) (true) ((cnd (!(a0.trait == a1.trait)) (true) ((cnd (!(a0.name == a1.name)) (true) ((cnd (a0.n != a1.n) (true) ((cnd (!(teq a0.type_ a1.type_)) (true) ((cnd ((a0.args.length : Int) != (a1.args.length : Int)) (true) (((a0.arms.length : Int) != (a1.arms.length : Int))))))))))))))) fun b1 =>
(cnd b1 (
(some false)) (
gAh rec_sEqualExpr a0 a1 a0.args 0))
theorem gQ5 {rec_sEqualExpr : jO → jO → Option (Bool)} (hrec_sEqualExpr : ∀ (x0 : jO) (x1 : jO) {r : Bool}, rec_sEqualExpr x0 x1 = some r → jB Tryz.prog 170 [.d (yO x0), .d (yO x1)] [.b r]) (a0 : jO) (a1 : jO) {r : Bool} (h : gH4 rec_sEqualExpr a0 a1 = some r) : jB Tryz.prog 170 [.d (yO a0), .d (yO a1)] [.b r] := by
 obtain ⟨a0_0, a0_1, a0_2, a0_3, ⟨a0_4_0, a0_4_1, a0_4_2⟩, a0_5, a0_6⟩ := a0
 obtain ⟨a1_0, a1_1, a1_2, a1_3, ⟨a1_4_0, a1_4_1, a1_4_2⟩, a1_5, a1_6⟩ := a1
 unfold gH4 at h
 refine SpI Tryz.func170 fun A _ => ?_
 refine goL ?_
 obtain ⟨b1, hb1, h⟩ := qU h
 refine jU ⟨[(2, .ptr 0 0), (3, .ptr 1 0), (58, .B b1)], [.box [.I a0_0, .S a0_1, .S a0_2, .I a0_3, .I a0_4_0, .S a0_4_1, .L 3 (gJ a0_4_2), .L 9 (kM a0_5), .L 11 (qD a0_6)], .box [.I a1_0, .S a1_1, .S a1_2, .I a1_3, .I a1_4_0, .S a1_4_1, .L 3 (gJ a1_4_2), .L 9 (kM a1_5), .L 11 (qD a1_6)]], Tryz.f170.ntmps⟩ ?_ ?_
 ·refine gQ 12 (fun c2 => ?_) (fun c2 => ?_)
  ·replace hb1 := gW c2 hb1
   refine goL ?_
   cases hb1
   exact eJ
  ·replace hb1 := gX c2 hb1
   refine goL ?_
   refine gQ 19 (fun c3 => ?_) (fun c3 => ?_)
   ·replace hb1 := gW c3 hb1
    refine goL ?_
    cases hb1
    exact eJ
   ·replace hb1 := gX c3 hb1
    refine goL ?_
    refine gQ 26 (fun c4 => ?_) (fun c4 => ?_)
    ·replace hb1 := gW c4 hb1
     refine goL ?_
     cases hb1
     exact eJ
    ·replace hb1 := gX c4 hb1
     refine goL ?_
     refine gQ 33 (fun c5 => ?_) (fun c5 => ?_)
     ·replace hb1 := gW c5 hb1
      refine goL ?_
      cases hb1
      exact eJ
     ·replace hb1 := gX c5 hb1
      refine goL ?_
      refine uB ?_
      refine jH (gF (yU (gD.mk a0_4_0 a0_4_1 a0_4_2) (gD.mk a1_4_0 a1_4_1 a1_4_2))) ?_
      refine gQ 41 (fun c6 => ?_) (fun c6 => ?_)
      ·replace hb1 := gW c6 hb1
       refine goL ?_
       cases hb1
       exact eJ
      ·replace hb1 := gX c6 hb1
       refine goL ?_
       refine gQ 50 (fun c7 => ?_) (fun c7 => ?_)
       ·replace hb1 := gW c7 hb1
        refine goL ?_
        cases hb1
        exact eJ
       ·replace hb1 := gX c7 hb1
        refine goL ?_
        cases hb1
        exact eJ
 refine goC h ?_ ?_<;>intro c8 h
 ·exact goR h
 ·refine goS ?_
  refine noB ?_
  refine vJ 0 7 (fun z10 => ?_)
  refine mY (fun (y9 : Nat) => ⟨[(2, .ptr 0 0), (3, .ptr 1 0), (5, .N y9)], [.box [.I a0_0, .S a0_1, .S a0_2, .I a0_3, .I a0_4_0, .S a0_4_1, .L 3 (gJ a0_4_2), .L 9 (kM a0_5), .L 11 (qD a0_6)], .box [.I a1_0, .S a1_1, .S a1_2, .I a1_3, .I a1_4_0, .S a1_4_1, .L 3 (gJ a1_4_2), .L 9 (kM a1_5), .L 11 (qD a1_6)]], Tryz.f170.ntmps⟩) (fun y9 => gAh rec_sEqualExpr (jO.mk a0_0 a0_1 a0_2 a0_3 (gD.mk a0_4_0 a0_4_1 a0_4_2) a0_5 a0_6) (jO.mk a1_0 a1_1 a1_2 a1_3 (gD.mk a1_4_0 a1_4_1 a1_4_2) a1_5 a1_6) (a0_5.drop y9) y9 = some r) (fun y9 => a0_5.length - y9) 0 eJ h ?_
  rintro y9 h
  refine goL ?_
  refine mF (fun c11 => ?_) (fun c11 => ?_)
  ·have hky92 := vO c11
   obtain ⟨x12, hx12, hdx12⟩ := drop_at hky92
   rw [hdx12, gAh.eq_2] at h
   obtain ⟨x12_0, x12_1, x12_2, x12_3, ⟨x12_4_0, x12_4_1, x12_4_2⟩, x12_5, x12_6⟩ := x12
   refine noS ?_
   refine kD (jC ?_)
   refine goL ?_
   refine gCr (jJ y9 (gS5 hx12)) ?_
   refine goL ?_
   obtain ⟨x13, hx13, h⟩ := gK h
   rw [gEa] at hx13
   obtain ⟨x13_0, x13_1, x13_2, x13_3, ⟨x13_4_0, x13_4_1, x13_4_2⟩, x13_5, x13_6⟩ := x13
   refine gCr (jJ y9 (gS5 hx13)) ?_
   refine goL ?_
   obtain ⟨x14, hx14, h⟩ := gK h
   refine gCr (gF (hrec_sEqualExpr (jO.mk x12_0 x12_1 x12_2 x12_3 (gD.mk x12_4_0 x12_4_1 x12_4_2) x12_5 x12_6) (jO.mk x13_0 x13_1 x13_2 x13_3 (gD.mk x13_4_0 x13_4_1 x13_4_2) x13_5 x13_6) hx14)) ?_
   refine goC h ?_ ?_<;>intro c15 h
   ·exact goR h
   ·refine goS ?_
    refine jH (jT y9 (by omega)) ?_
    exact ⟨(y9 + 1), h, by omega, eJ⟩
  ·have hky92 := vP c11
   rw [jE hky92, gAh.eq_1] at h
   refine goX ?_
   refine noB ?_
   refine vJ 0 8 (fun z17 => ?_)
   refine mY (fun (y16 : Nat) => ⟨[(2, .ptr 0 0), (3, .ptr 1 0), (6, .N y16)], [.box [.I a0_0, .S a0_1, .S a0_2, .I a0_3, .I a0_4_0, .S a0_4_1, .L 3 (gJ a0_4_2), .L 9 (kM a0_5), .L 11 (qD a0_6)], .box [.I a1_0, .S a1_1, .S a1_2, .I a1_3, .I a1_4_0, .S a1_4_1, .L 3 (gJ a1_4_2), .L 9 (kM a1_5), .L 11 (qD a1_6)]], Tryz.f170.ntmps⟩) (fun y16 => gAg rec_sEqualExpr (jO.mk a1_0 a1_1 a1_2 a1_3 (gD.mk a1_4_0 a1_4_1 a1_4_2) a1_5 a1_6) (a0_6.drop y16) y16 = some r) (fun y16 => a0_6.length - y16) 0 eJ h ?_
   rintro y16 h
   refine goL ?_
   refine mF (fun c18 => ?_) (fun c18 => ?_)
   ·have hky162 := vO c18
    obtain ⟨x19, hx19, hdx19⟩ := drop_at hky162
    rw [hdx19, gAg.eq_2] at h
    obtain ⟨x19_0, x19_1, ⟨x19_2_0, x19_2_1, x19_2_2, x19_2_3, ⟨x19_2_4_0, x19_2_4_1, x19_2_4_2⟩, x19_2_5, x19_2_6⟩⟩ := x19
    refine noS ?_
    refine kD (jC ?_)
    obtain ⟨b20, hb20, h⟩ := gK h
    refine qP (P := Tryz.prog) Mix.h ⟨[(2, .ptr 0 0), (3, .ptr 1 0), (6, .N y16), (129, .B b20)], [.box [.I a0_0, .S a0_1, .S a0_2, .I a0_3, .I a0_4_0, .S a0_4_1, .L 3 (gJ a0_4_2), .L 9 (kM a0_5), .L 11 (qD a0_6)], .box [.I a1_0, .S a1_1, .S a1_2, .I a1_3, .I a1_4_0, .S a1_4_1, .L 3 (gJ a1_4_2), .L 9 (kM a1_5), .L 11 (qD a1_6)]], Tryz.f170.ntmps⟩ (by kernel_rfl) ?_ ?_
    ·refine goL ?_
     refine gCr (jJ y16 (gX5 hx19)) ?_
     refine goL ?_
     obtain ⟨x21, hx21, hb20⟩ := gK hb20
     rw [gEa] at hx21
     obtain ⟨x21_0, x21_1, ⟨x21_2_0, x21_2_1, x21_2_2, x21_2_3, ⟨x21_2_4_0, x21_2_4_1, x21_2_4_2⟩, x21_2_5, x21_2_6⟩⟩ := x21
     refine gCr (jJ y16 (gX5 hx21)) ?_
     refine goL ?_
     refine wN 98 (fun c22 => ?_) (fun c22 => ?_)
     ·replace hb20 := gW c22 hb20
      refine goL ?_
      cases hb20
      exact eJ
     ·replace hb20 := gX c22 hb20
      refine goL ?_
      refine gBo (jJ y16 (gX5 hx19)) ?_
      refine goL ?_
      refine gBo (jJ y16 (gX5 hx21)) ?_
      refine goL ?_
      obtain ⟨x23, hx23, hb20⟩ := gK hb20
      refine gBo (gF (gVs x19_1 x21_1 hx23)) ?_
      refine goL ?_
      refine wN 114 (fun c24 => ?_) (fun c24 => ?_)
      ·replace hb20 := gW c24 hb20
       refine goL ?_
       cases hb20
       exact eJ
      ·replace hb20 := gX c24 hb20
       refine goL ?_
       refine gBo (jJ y16 (gX5 hx19)) ?_
       refine goL ?_
       refine gBo (jJ y16 (gX5 hx21)) ?_
       refine goL ?_
       obtain ⟨x25, hx25, hb20⟩ := gK hb20
       refine gBo (gF (hrec_sEqualExpr (jO.mk x19_2_0 x19_2_1 x19_2_2 x19_2_3 (gD.mk x19_2_4_0 x19_2_4_1 x19_2_4_2) x19_2_5 x19_2_6) (jO.mk x21_2_0 x21_2_1 x21_2_2 x21_2_3 (gD.mk x21_2_4_0 x21_2_4_1 x21_2_4_2) x21_2_5 x21_2_6) hx25)) ?_
       refine goL ?_
       cases hb20
       exact eJ
    refine goC h ?_ ?_<;>intro c26 h
    ·exact goR h
    ·refine goS ?_
     refine jH (jT y16 (by omega)) ?_
     exact ⟨(y16 + 1), h, by omega, eJ⟩
   ·have hky162 := vP c18
    rw [jE hky162, gAg.eq_1] at h
    refine goX ?_
    refine jN ?_
    cases h
    exact qH
def gH5 : Nat → jO → jO → Option (Bool)
 | 0, _, _ => none
 | n + 1, x0, x1 => gH4 (gH5 n) x0 x1
theorem gQ6 : ∀ (n : Nat) (x0 : jO) (x1 : jO) {r : Bool}, gH5 n x0 x1 = some r → jB Tryz.prog 170 [.d (yO x0), .d (yO x1)] [.b r] := by
 intro n
 induction n with
 | zero => intro x0 x1 r h; cases h
 | succ n ih => intro x0 x1 r h; exact gQ5 ih x0 x1 h
def gDl : List (List UInt8) → (List gB) → Option (List gB)
 | [], y1 => (some y1)
 | x6 :: xs, y1 => lt_ (kU x6) fun x7 =>
gd (y1.length + [x7].length ≤ 4294967296) (
gDl xs (y1 ++ [x7]))
def gKb (a0 : List (List UInt8)) : Option (List gB) :=
gDl a0 []
theorem gQ7 (a0 : List (List UInt8)) {r : List gB} (h : gKb a0 = some r) : jB Tryz.prog 154 [.L 1 (gY a0)] [.sl 2 (gM r)] := by
 unfold gKb at h
 refine SpI Tryz.func154 fun A _ => ?_
 refine goL ?_
 refine gAc ?_
 refine goL ?_
 refine noB ?_
 refine gEk 0 (fun z4 => ?_)
 refine kQ (fun (y3 : Nat) (y1 : List gB) (v2 : Nat) => ⟨[(0, .L 1 (gY a0)), (3, .sl 0 v2), (4, .N y3)], [.arr 113 2 v2 (gM y1)], Tryz.f154.ntmps⟩) (fun y3 y1 v2 => gDl (a0.drop y3) y1 = some r) (fun y3 y1 v2 => a0.length - y3) 0 [] 0 eJ h ?_
 rintro y3 y1 v2 h
 refine goL ?_
 refine mF (fun c5 => ?_) (fun c5 => ?_)
 ·have hky32 := vO c5
  obtain ⟨x6, hx6, hdx6⟩ := drop_at hky32
  rw [hdx6, gDl.eq_2] at h
  refine noS ?_
  refine kD (jC ?_)
  refine goL ?_
  refine jH (jJ y3 (gOl hx6)) ?_
  obtain ⟨⟨x7_0, x7_1⟩, hx7, h⟩ := qU h
  have sx7 := mE x6
  rw [hx7] at sx7
  refine qQ (gF (sx7)) ?_
  refine gBc (u := (.st [.s x7_0, .sl 2 (gM x7_1)])) ?_
  obtain ⟨g8, h⟩ := pF h
  refine gBu g8 ?_
  refine goL ?_
  refine jH (jT y3 (by omega)) ?_
  exact ⟨(y3 + 1), (y1 ++ [(gB.mk x7_0 x7_1)]), (v2 + 1), h, by omega, eJ⟩
 ·have hky32 := vP c5
  rw [jE hky32, gDl.eq_1] at h
  refine goX ?_
  refine kI 0 rfl rfl ?_
  refine jN ?_
  cases h
  exact qH
def gH6 (rec_l5Sx : gD → Option (gB)) : List gD → (List gB) → Option (gB)
 | [], y17 => (some (gB.mk [] y17))
 | x22 :: xs, y17 => bnd (rec_l5Sx x22) fun x23 =>
gd (y17.length + [x23].length ≤ 4294967296) (
gH6 rec_l5Sx xs (y17 ++ [x23]))
def gH7 (rec_l5Sx : gD → Option (gB)) : List gD → (List gB) → Option (gB)
 | [], y27 => (some (gB.mk [] y27))
 | x32 :: xs, y27 => bnd (rec_l5Sx x32) fun x33 =>
gd (y27.length + [x33].length ≤ 4294967296) (
gH7 rec_l5Sx xs (y27 ++ [x33]))
def gW7 (rec_l5Sx : gD → Option (gB)) (a0 : gD) : Option (gB) :=
(cnd (a0.kind == 1) (
gd (([39] : List UInt8).length + a0.name.length ≤ 4294967296) (
lt_ (kU (([39] : List UInt8) ++ a0.name)) fun x3 =>
(some x3))) (
(cnd (a0.kind == 4) (
lt_ (kU [100, 121, 110]) fun x5 =>
lt_ (kU a0.name) fun x6 =>
bnd (gF7 [x5, x6]) fun x7 =>
(some x7)) (
lt_ ((cnd (a0.kind == 2) (((a0.args.length : Int) == 0)) (false))) fun b8 =>
(cnd b8 (
lt_ (kU a0.name) fun x11 =>
(some x11)) (
(cnd (a0.kind == 3) (
lt_ (kU [97, 115, 115, 111, 99]) fun x13 =>
gd (([] : List gB).length + [x13].length ≤ 4294967296) (
lt_ (kU a0.name) fun x15 =>
gd (([] ++ [x13]).length + [x15].length ≤ 4294967296) (
gH6 rec_l5Sx a0.args (([] ++ [x13]) ++ [x15])))) (
lt_ (kU a0.name) fun x25 =>
gd (([] : List gB).length + [x25].length ≤ 4294967296) (
gH7 rec_l5Sx a0.args ([] ++ [x25]))))))))))
theorem hGl {rec_l5Sx : gD → Option (gB)} (hrec_l5Sx : ∀ (x0 : gD) {r : gB}, rec_l5Sx x0 = some r → jB Tryz.prog 134 [.d (jQ x0)] [mD r]) (a0 : gD) {r : gB} (h : gW7 rec_l5Sx a0 = some r) : jB Tryz.prog 134 [.d (jQ a0)] [mD r] := by
 obtain ⟨a0_0, a0_1, a0_2⟩ := a0
 unfold gW7 at h
 refine SpI Tryz.func134 fun A _ => ?_
 refine goL ?_
 refine kD (jC ?_)
 refine goC h ?_ ?_<;>intro c1 h
 ·refine goL ?_
  obtain ⟨g2, h⟩ := pF h
  refine qQ (vK g2) ?_
  obtain ⟨⟨x3_0, x3_1⟩, hx3, h⟩ := qU h
  have sx3 := mE (([39] : List UInt8) ++ a0_1)
  rw [hx3] at sx3
  refine qQ (gF (sx3)) ?_
  exact goR h
 ·refine goC h ?_ ?_<;>intro c4 h
  ·refine jL (P := Tryz.prog) Mix.h [(1, true), (2, true), (0, false), (3, false), (4, false), (5, false), (6, false)] (by kernel_rfl) ?_
   refine goY ?_
   obtain ⟨⟨x5_0, x5_1⟩, hx5, h⟩ := qU h
   have sx5 := mE [100, 121, 110]
   rw [hx5] at sx5
   refine mZ (sx5) ?_
   obtain ⟨⟨x6_0, x6_1⟩, hx6, h⟩ := qU h
   have sx6 := mE a0_1
   rw [hx6] at sx6
   refine mZ (sx6) ?_
   refine pY (T := 111) (us := gM [(gB.mk x5_0 x5_1), (gB.mk x6_0 x6_1)]) ?_
   refine zO 2 rfl rfl ?_
   obtain ⟨⟨x7_0, x7_1⟩, hx7, h⟩ := gK h
   refine mZ (gI1 [(gB.mk x5_0 x5_1), (gB.mk x6_0 x6_1)] hx7) ?_
   refine goY ?_
   refine kP ?_
   exact goR h
  ·refine goL ?_
   obtain ⟨b8, hb8, h⟩ := qU h
   refine jU ⟨[(1, .ptr 0 0), (2, .ptr 1 0), (23, .B b8)], [.box [.I a0_0, .S a0_1, .L 3 (gJ a0_2)], .box [.S [], .nilsl]], Tryz.f134.ntmps⟩ ?_ ?_
   ·refine gQ 27 (fun c9 => ?_) (fun c9 => ?_) (by first | rfl | (simp only [jM, gZ]; rfl))
    ·replace hb8 := gW c9 hb8
     refine goL ?_
     cases hb8
     exact ⟨rfl, ⟨⟨rfl, rfl⟩, ⟨rfl, rfl⟩, ⟨by first | rfl | (simp only [jM, gZ]; rfl), rfl⟩, trivial⟩, ⟨_, rfl⟩, rfl⟩
    ·replace hb8 := gX c9 hb8
     refine goL ?_
     cases hb8
     exact ⟨rfl, ⟨⟨rfl, rfl⟩, ⟨rfl, rfl⟩, ⟨by first | rfl | (simp only [jM, gZ]; rfl), rfl⟩, trivial⟩, ⟨_, rfl⟩, rfl⟩
   refine goC h ?_ ?_<;>intro c10 h
   ·refine goL ?_
    obtain ⟨⟨x11_0, x11_1⟩, hx11, h⟩ := qU h
    have sx11 := mE a0_1
    rw [hx11] at sx11
    refine qQ (gF (sx11)) ?_
    exact goR h
   ·refine goS ?_
    refine gFj (kE TBd.h TZ.h rfl (by repeat constructor)) ?_
    refine mF (fun c12 => ?_) (fun c12 => ?_)
    ·replace h := gW c12 h
     refine yF 113 2 2 1 rfl rfl (by repeat constructor) (by repeat constructor) (by repeat constructor) (by repeat constructor) ?_
     refine vH (P := Tryz.prog) Mix.h [(0, true), (1, true), (2, false), (3, false), (4, false), (5, true), (6, false)] (by kernel_rfl) ?_
     refine goY ?_
     obtain ⟨⟨x13_0, x13_1⟩, hx13, h⟩ := qU h
     have sx13 := mE [97, 115, 115, 111, 99]
     rw [hx13] at sx13
     refine mZ (sx13) ?_
     refine pY (T := 111) (us := gM [(gB.mk x13_0 x13_1)]) ?_
     obtain ⟨g14, h⟩ := pF h
     refine pV (T := 111) g14 ?_
     refine goY ?_
     refine kP ?_
     refine gIx ?_
     refine jL (P := Tryz.prog) Mix.h [(0, true), (1, true), (2, true), (3, true), (4, false), (5, false), (6, false), (7, true), (8, false)] (by kernel_rfl) ?_
     refine goY ?_
     obtain ⟨⟨x15_0, x15_1⟩, hx15, h⟩ := qU h
     have sx15 := mE a0_1
     rw [hx15] at sx15
     refine mZ (sx15) ?_
     refine pY (T := 111) (us := gM [(gB.mk x15_0 x15_1)]) ?_
     obtain ⟨g16, h⟩ := pF h
     refine pV (T := 111) g16 ?_
     refine goY ?_
     refine kP ?_
     refine goL ?_
     refine noB ?_
     refine vJ 0 2 (fun z20 => ?_)
     refine kQ (fun (y19 : Nat) (y17 : List gB) (v18 : Nat) => ⟨[(1, .ptr 0 0), (2, .ptr 1 0), (3, .ptr 2 0), (4, .N y19)], [.box [.I a0_0, .S a0_1, .L 3 (gJ a0_2)], .box [.S [], .nilsl], .box [.S [], .sl 3 v18], .arr 113 2 v18 (gM y17), .arr 113 2 0 (gM [(gB.mk x13_0 x13_1)]), .arr 113 2 0 (gM [(gB.mk x15_0 x15_1)])], Tryz.f134.ntmps⟩) (fun y19 y17 v18 => gH6 rec_l5Sx (a0_2.drop y19) y17 = some r) (fun y19 y17 v18 => a0_2.length - y19) 0 (([] ++ [(gB.mk x13_0 x13_1)]) ++ [(gB.mk x15_0 x15_1)]) ((0 + 1) + 1) eJ h ?_
     rintro y19 y17 v18 h
     refine goL ?_
     refine mF (fun c21 => ?_) (fun c21 => ?_)
     ·have hky192 := vO c21
      obtain ⟨x22, hx22, hdx22⟩ := drop_at hky192
      rw [hdx22, gH6.eq_2] at h
      obtain ⟨x22_0, x22_1, x22_2⟩ := x22
      refine noS ?_
      refine kD (jC ?_)
      refine vH (P := Tryz.prog) Mix.h [(0, true), (1, true), (2, true), (3, true), (4, true), (5, true), (6, true), (7, false), (8, false), (9, false), (10, true), (11, false)] (by kernel_rfl) ?_
      refine goY ?_
      refine jD rfl (jJ y19 (gA5 hx22)) ?_
      refine goY ?_
      obtain ⟨⟨x23_0, x23_1⟩, hx23, h⟩ := gK h
      refine mZ (hrec_l5Sx (gD.mk x22_0 x22_1 x22_2) hx23) ?_
      refine pY (T := 111) (us := gM [(gB.mk x23_0 x23_1)]) ?_
      obtain ⟨g24, h⟩ := pF h
      refine pV (T := 111) g24 ?_
      refine goY ?_
      refine kP ?_
      refine goL ?_
      refine jH (jT y19 (by omega)) ?_
      exact ⟨(y19 + 1), (y17 ++ [(gB.mk x23_0 x23_1)]), (v18 + 1), h, by omega, eJ⟩
     ·have hky192 := vP c21
      rw [jE hky192, gH6.eq_1] at h
      refine goX ?_
      refine kI 3 rfl rfl ?_
      refine jN ?_
      cases h
      exact qH
    ·replace h := gX c12 h
     refine noS ?_
     refine yF 113 2 2 1 rfl rfl (by repeat constructor) (by repeat constructor) (by repeat constructor) (by repeat constructor) ?_
     refine jL (P := Tryz.prog) Mix.h [(0, true), (1, true), (2, true), (3, true), (4, false), (5, false), (6, false), (7, true), (8, false)] (by kernel_rfl) ?_
     refine goY ?_
     obtain ⟨⟨x25_0, x25_1⟩, hx25, h⟩ := qU h
     have sx25 := mE a0_1
     rw [hx25] at sx25
     refine mZ (sx25) ?_
     refine pY (T := 111) (us := gM [(gB.mk x25_0 x25_1)]) ?_
     obtain ⟨g26, h⟩ := pF h
     refine pV (T := 111) g26 ?_
     refine goY ?_
     refine kP ?_
     refine goL ?_
     refine noB ?_
     refine vJ 0 2 (fun z30 => ?_)
     refine kQ (fun (y29 : Nat) (y27 : List gB) (v28 : Nat) => ⟨[(1, .ptr 0 0), (2, .ptr 1 0), (3, .ptr 2 0), (4, .N y29)], [.box [.I a0_0, .S a0_1, .L 3 (gJ a0_2)], .box [.S [], .nilsl], .box [.S [], .sl 3 v28], .arr 113 2 v28 (gM y27), .arr 113 2 0 (gM [(gB.mk x25_0 x25_1)])], Tryz.f134.ntmps⟩) (fun y29 y27 v28 => gH7 rec_l5Sx (a0_2.drop y29) y27 = some r) (fun y29 y27 v28 => a0_2.length - y29) 0 ([] ++ [(gB.mk x25_0 x25_1)]) (0 + 1) eJ h ?_
     rintro y29 y27 v28 h
     refine goL ?_
     refine mF (fun c31 => ?_) (fun c31 => ?_)
     ·have hky292 := vO c31
      obtain ⟨x32, hx32, hdx32⟩ := drop_at hky292
      rw [hdx32, gH7.eq_2] at h
      obtain ⟨x32_0, x32_1, x32_2⟩ := x32
      refine noS ?_
      refine kD (jC ?_)
      refine vH (P := Tryz.prog) Mix.h [(0, true), (1, true), (2, true), (3, true), (4, true), (5, true), (6, true), (7, false), (8, false), (9, false), (10, true), (11, false)] (by kernel_rfl) ?_
      refine goY ?_
      refine jD rfl (jJ y29 (gA5 hx32)) ?_
      refine goY ?_
      obtain ⟨⟨x33_0, x33_1⟩, hx33, h⟩ := gK h
      refine mZ (hrec_l5Sx (gD.mk x32_0 x32_1 x32_2) hx33) ?_
      refine pY (T := 111) (us := gM [(gB.mk x33_0 x33_1)]) ?_
      obtain ⟨g34, h⟩ := pF h
      refine pV (T := 111) g34 ?_
      refine goY ?_
      refine kP ?_
      refine goL ?_
      refine jH (jT y29 (by omega)) ?_
      exact ⟨(y29 + 1), (y27 ++ [(gB.mk x33_0 x33_1)]), (v28 + 1), h, by omega, eJ⟩
     ·have hky292 := vP c31
      rw [jE hky292, gH7.eq_1] at h
      refine goX ?_
      refine kI 3 rfl rfl ?_
      refine jN ?_
      cases h
      exact qH
def gJb : Nat → gD → Option (gB)
 | 0, _ => none
 | n + 1, x0 => gW7 (gJb n) x0
theorem gHn : ∀ (n : Nat) (x0 : gD) {r : gB}, gJb n x0 = some r → jB Tryz.prog 134 [.d (jQ x0)] [mD r] := by
 intro n
 induction n with
 | zero => intro x0 r h; cases h
 | succ n ih => intro x0 r h; exact hGl ih x0 h
@[reducible] def vE : List UInt8 := List.append [40, 112, 97, 99, 107, 97, 103, 101, 32, 99, 111, 114, 101, 32, 40, 41, 32, 40, 116, 114, 97, 105, 116, 32, 115, 104, 111, 119, 32, 40, 41, 32, 40, 41, 32, 40, 109, 32, 40, 41, 32, 105, 110, 116, 41, 32, 40, 116, 119, 111, 32, 40, 39, 115, 101] [108, 102, 41, 32, 105, 110, 116, 32, 40, 120, 32, 121, 41, 32, 40, 43, 32, 40, 109, 101, 116, 104, 111, 100, 32, 115, 104, 111, 119, 32, 109, 32, 120, 41, 32, 40, 109, 101, 116, 104, 111, 100, 32, 115, 104, 111, 119, 32, 109, 32, 121, 41, 41, 41, 41]
@[reducible] def vF : List UInt8 := List.append (List.append [32, 40, 116, 114, 97, 105, 116, 32, 101, 113, 32, 40, 41, 32, 40, 41, 32, 40, 115, 97, 109, 101, 32, 40, 39, 115, 101, 108, 102, 41, 32, 98, 111, 111, 108, 41, 41, 32, 40] [116, 114, 97, 105, 116, 32, 111, 114, 100, 32, 40, 101, 113, 41, 32, 40, 41, 32, 40, 108, 101, 115, 115, 32, 40, 39, 115, 101, 108, 102, 41, 32, 98, 111, 111, 108, 41, 41, 32]) (List.append [40, 116, 114, 97, 105, 116, 32, 97, 100, 100, 32, 40, 41, 32, 40, 97, 115, 115, 111, 99, 41, 32, 40, 112, 108, 117, 115, 32, 40, 39, 115, 101, 108, 102, 41, 32, 40, 97, 115] [115, 111, 99, 32, 97, 100, 100, 32, 39, 115, 101, 108, 102, 41, 41, 41, 32, 40, 116, 114, 97, 105, 116, 32, 115, 101, 110, 100, 32, 40, 41, 32, 40, 97, 117, 116, 111, 41, 41])
@[reducible] def wG : List UInt8 := List.append [32, 40, 100, 97, 116, 97, 32, 108, 105, 115, 116, 32, 40, 97, 41, 32, 40, 110, 105, 108, 41, 32, 40, 99, 111, 110, 115, 32, 39, 97, 32, 40, 108, 105, 115, 116, 32, 39, 97, 41, 41, 41, 32, 40, 100, 97, 116, 97, 32, 112, 97, 105, 114, 32, 40, 97, 32, 98, 41] [32, 40, 112, 97, 105, 114, 32, 39, 97, 32, 39, 98, 41, 41, 32, 40, 100, 97, 116, 97, 32, 98, 111, 120, 32, 40, 97, 41, 32, 40, 98, 111, 120, 32, 39, 97, 41, 41, 32, 40, 100, 97, 116, 97, 32, 117, 110, 105, 116, 32, 40, 41, 32, 40, 117, 110, 105, 116, 41, 41]
@[reducible] def wZ : List UInt8 := List.append [32, 40, 105, 110, 115, 116, 32, 115, 104, 111, 119, 32, 40, 41, 32, 105, 110, 116, 32, 40, 41, 32, 40, 41, 32, 40, 41, 32, 40, 109, 32, 40, 120, 41, 32, 120, 41, 41, 32, 40, 105, 110, 115] [116, 32, 115, 104, 111, 119, 32, 40, 41, 32, 98, 111, 111, 108, 32, 40, 41, 32, 40, 41, 32, 40, 41, 32, 40, 109, 32, 40, 120, 41, 32, 40, 105, 102, 32, 120, 32, 49, 32, 48, 41, 41, 41]
@[reducible] def gBj : List UInt8 := List.append [32, 40, 105, 110, 115, 116, 32, 115, 104, 111, 119, 32, 40, 97, 41, 32, 40, 108, 105, 115, 116, 32, 39, 97, 41, 32, 40, 40, 115, 104, 111, 119, 32, 39, 97, 41, 41, 32, 40, 41, 32, 40, 41, 32, 40, 109, 32, 40, 120, 41, 32, 40, 99, 97, 115, 101, 32, 120, 32, 40] [110, 105, 108, 32, 48, 41, 32, 40, 99, 111, 110, 115, 32, 104, 32, 116, 32, 40, 43, 32, 40, 109, 101, 116, 104, 111, 100, 32, 115, 104, 111, 119, 32, 109, 32, 104, 41, 32, 40, 109, 101, 116, 104, 111, 100, 32, 115, 104, 111, 119, 32, 109, 32, 116, 41, 41, 41, 41, 41, 41]
@[reducible] def gBk : List UInt8 := List.append (List.append [32, 40, 105, 110, 115, 116, 32, 115, 104, 111, 119, 32, 40, 97, 41, 32, 40, 108, 105, 115, 116, 32, 39, 97, 41, 32, 40, 41, 32, 40, 100, 101, 102, 97, 117, 108] [116, 41, 32, 40, 41, 32, 40, 109, 32, 40, 120, 41, 32, 55, 41, 41, 32, 40, 105, 110, 115, 116, 32, 115, 104, 111, 119, 32, 40, 41, 32, 40, 108, 105, 115, 116, 32]) (List.append [105, 110, 116, 41, 32, 40, 41, 32, 40, 41, 32, 40, 41, 32, 40, 109, 32, 40, 120, 41, 32, 40, 99, 97, 115, 101, 32, 120, 32, 40, 110, 105, 108, 32, 48, 41, 32] [40, 99, 111, 110, 115, 32, 104, 32, 116, 32, 40, 43, 32, 104, 32, 40, 109, 101, 116, 104, 111, 100, 32, 115, 104, 111, 119, 32, 109, 32, 116, 41, 41, 41, 41, 41, 41])
@[reducible] def qX : List UInt8 := List.append [32, 40, 105, 110, 115, 116, 32, 115, 104, 111, 119, 32, 40, 97, 32, 98, 41, 32, 40, 112, 97, 105, 114, 32, 39, 97, 32, 39, 98, 41, 32, 40, 40, 115, 104, 111, 119, 32, 39, 97, 41, 32, 40, 115, 104, 111, 119, 32, 39, 98, 41, 41, 32, 40, 41, 32, 40, 41, 32, 40, 109, 32, 40] [120, 41, 32, 40, 99, 97, 115, 101, 32, 120, 32, 40, 112, 97, 105, 114, 32, 121, 32, 122, 32, 40, 45, 32, 40, 109, 101, 116, 104, 111, 100, 32, 115, 104, 111, 119, 32, 109, 32, 121, 41, 32, 40, 109, 101, 116, 104, 111, 100, 32, 115, 104, 111, 119, 32, 109, 32, 122, 41, 41, 41, 41, 41, 41]
@[reducible] def uI : List UInt8 := List.append [32, 40, 105, 110, 115, 116, 32, 101, 113, 32, 40, 41, 32, 105, 110, 116, 32, 40, 41, 32, 40, 41, 32, 40, 41, 32, 40, 115, 97, 109, 101, 32, 40, 120, 32, 121, 41, 32, 40, 61, 32, 120, 32, 121, 41, 41, 41] [32, 40, 105, 110, 115, 116, 32, 111, 114, 100, 32, 40, 41, 32, 105, 110, 116, 32, 40, 41, 32, 40, 41, 32, 40, 41, 32, 40, 108, 101, 115, 115, 32, 40, 120, 32, 121, 41, 32, 40, 60, 32, 120, 32, 121, 41, 41, 41]
@[reducible] def vG : List UInt8 := List.append [32, 40, 105, 110, 115, 116, 32, 101, 113, 32, 40, 97, 41, 32, 40, 98, 111, 120, 32, 39, 97, 41, 32, 40, 40, 101, 113, 32, 39, 97, 41, 41, 32, 40, 41, 32, 40, 41, 32, 40, 115, 97, 109, 101, 32, 40, 120, 32, 121, 41, 32, 40, 99] [97, 115, 101, 32, 120, 32, 40, 98, 111, 120, 32, 112, 32, 40, 99, 97, 115, 101, 32, 121, 32, 40, 98, 111, 120, 32, 113, 32, 40, 109, 101, 116, 104, 111, 100, 32, 101, 113, 32, 115, 97, 109, 101, 32, 112, 32, 113, 41, 41, 41, 41, 41, 41, 41]
@[reducible] def uV : List UInt8 := [32, 40, 105, 110, 115, 116, 32, 97, 100, 100, 32, 40, 41, 32, 105, 110, 116, 32, 40, 41, 32, 40, 41, 32, 40, 105, 110, 116, 41, 32, 40, 112, 108, 117, 115, 32, 40, 120, 32, 121, 41, 32, 40, 43, 32, 120, 32, 121, 41, 41, 41]
@[reducible] def vS : List UInt8 := List.append (List.append [32, 40, 105, 110, 115, 116, 32, 97, 100, 100, 32, 40, 97, 41, 32, 40, 98, 111, 120, 32, 39, 97, 41, 32, 40, 40, 97, 100, 100, 32, 39, 97, 41, 41, 32] [40, 41, 32, 40, 40, 98, 111, 120, 32, 40, 97, 115, 115, 111, 99, 32, 97, 100, 100, 32, 39, 97, 41, 41, 41, 32, 40, 112, 108, 117, 115, 32, 40, 120, 32]) (List.append [121, 41, 32, 40, 99, 97, 115, 101, 32, 120, 32, 40, 98, 111, 120, 32, 112, 32, 40, 99, 97, 115, 101, 32, 121, 32, 40, 98, 111, 120, 32, 113, 32, 40, 110] [101, 119, 32, 98, 111, 120, 32, 40, 109, 101, 116, 104, 111, 100, 32, 97, 100, 100, 32, 112, 108, 117, 115, 32, 112, 32, 113, 41, 41, 41, 41, 41, 41, 41, 41])
@[reducible] def wT : List UInt8 := List.append [32, 40, 102, 110, 32, 105, 100, 32, 40, 97, 41, 32, 40, 41, 32, 40, 40, 120, 32, 39, 97, 41, 41, 32, 39, 97, 32, 120, 41, 32, 40, 102, 110, 32, 98, 111, 116, 104, 32, 40, 97, 41, 32, 40, 40] [115, 104, 111, 119, 32, 39, 97, 41, 41, 32, 40, 40, 120, 32, 39, 97, 41, 41, 32, 105, 110, 116, 32, 40, 109, 101, 116, 104, 111, 100, 32, 115, 104, 111, 119, 32, 116, 119, 111, 32, 120, 32, 120, 41, 41]
def gH8 (c : jA) : Option (List UInt8 × jA) :=
gd (vE.length + vF.length ≤ 4294967296) (
gd ((vE ++ vF).length + wG.length ≤ 4294967296) (
gd (((vE ++ vF) ++ wG).length + wZ.length ≤ 4294967296) (
bnd (gCm c 2) fun x4 =>
bnd ((cnd x4.1 (
gd ((((vE ++ vF) ++ wG) ++ wZ).length + gBj.length ≤ 4294967296) (
(some ((((vE ++ vF) ++ wG) ++ wZ) ++ gBj)))) (
gd ((((vE ++ vF) ++ wG) ++ wZ).length + gBk.length ≤ 4294967296) (
(some ((((vE ++ vF) ++ wG) ++ wZ) ++ gBk)))))) fun b5 =>
gd (b5.length + qX.length ≤ 4294967296) (
gd ((b5 ++ qX).length + uI.length ≤ 4294967296) (
gd (((b5 ++ qX) ++ uI).length + vG.length ≤ 4294967296) (
gd ((((b5 ++ qX) ++ uI) ++ vG).length + uV.length ≤ 4294967296) (
gd (((((b5 ++ qX) ++ uI) ++ vG) ++ uV).length + vS.length ≤ 4294967296) (
gd ((((((b5 ++ qX) ++ uI) ++ vG) ++ uV) ++ vS).length + wT.length ≤ 4294967296) (
gd (((((((b5 ++ qX) ++ uI) ++ vG) ++ uV) ++ vS) ++ wT).length + ([41] : List UInt8).length ≤ 4294967296) (
(some ((((((((b5 ++ qX) ++ uI) ++ vG) ++ uV) ++ vS) ++ wT) ++ ([41] : List UInt8)), x4.2))))))))))))
set_option maxRecDepth 100000 in
theorem gW8 (c : jA) {r : List UInt8 × jA} (h : gH8 c = some r) : Go.Eng.Spec Tryz.prog 56 [.ptr 0 0] [.box [.L 1 (kN c.b), .I c.i, .I c.h]] (fun sv Lo => sv = .S r.1 ∧ Lo = [.box [.L 1 (kN r.2.b), .I r.2.i, .I r.2.h]]) := by
 obtain ⟨c_0, c_1, c_2⟩ := c
 unfold gH8 at h
 refine kY 1 Tryz.func56 rfl (by kernel_rfl) rfl rfl fun A _ => ?_
 refine goL ?_
 obtain ⟨g1, h⟩ := pF h
 refine jH (vK g1) ?_
 obtain ⟨g2, h⟩ := pF h
 refine jH (vK g2) ?_
 obtain ⟨g3, h⟩ := pF h
 refine jH (vK g3) ?_
 obtain ⟨⟨x4_0, ⟨x4_1_0, x4_1_1, x4_1_2⟩⟩, hx4, h⟩ := gK h
 refine zH 0 (gG9 (jA.mk c_0 c_1 c_2) 2 hx4) ?_
 refine goL ?_
 obtain ⟨b5, hb5, h⟩ := gK h
 refine gD8 ⟨[(3, .S b5)], [.box [.L 1 (kN x4_1_0), .I x4_1_1, .I x4_1_2]], Tryz.f56.ntmps⟩ ?_ ?_
 ·refine mF (fun c6 => ?_) (fun c6 => ?_)
  ·replace hb5 := gW c6 hb5
   refine goL ?_
   obtain ⟨g7, hb5⟩ := pF hb5
   refine jH (vK g7) ?_
   cases hb5
   exact eJ
  ·replace hb5 := gX c6 hb5
   refine goL ?_
   obtain ⟨g8, hb5⟩ := pF hb5
   refine jH (vK g8) ?_
   cases hb5
   exact eJ
 refine goL ?_
 obtain ⟨g9, h⟩ := pF h
 refine jH (vK g9) ?_
 obtain ⟨g10, h⟩ := pF h
 refine jH (vK g10) ?_
 obtain ⟨g11, h⟩ := pF h
 refine jH (vK g11) ?_
 obtain ⟨g12, h⟩ := pF h
 refine jH (vK g12) ?_
 obtain ⟨g13, h⟩ := pF h
 refine jH (vK g13) ?_
 obtain ⟨g14, h⟩ := pF h
 refine jH (vK g14) ?_
 obtain ⟨g15, h⟩ := pF h
 refine jH (vK g15) ?_
 refine jN ?_
 obtain rfl := Option.some.inj h
 exact gEl [.d (.s (((((((b5 ++ qX) ++ uI) ++ vG) ++ uV) ++ vS) ++ wT) ++ ([41] : List UInt8)))] [.box [.L 1 (kN x4_1_0), .I x4_1_1, .I x4_1_2]] ⟨rfl, rfl⟩
end Go.Proofs.YtfaplndgbgoaaaaGreat
