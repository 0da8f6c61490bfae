import Derived.Test.YtfaplndgbgoaaaaGreatEng38
import Derived.Test.YtfaplndgbgoaaaaGreatEng67
import Derived.Test.YtfaplndgbgoaaaaGreatSfi0
import Derived.Test.YtfaplndgbgoaaaaGreatB11
import Derived.Test.YtfaplndgbgoaaaaGreatB15
import Derived.Test.YtfaplndgbgoaaaaGreatB2
import Derived.Test.YtfaplndgbgoaaaaGreatB5
import Derived.Test.YtfaplndgbgoaaaaGreatVr
import Derived.Test.YtfaplndgbgoaaaaGreatUn1
import Derived.Test.YtfaplndgbgoaaaaGreatZv
import Derived.Test.YtfaplndgbgoaaaaGreatZz
set_option maxHeartbeats 4000000
set_option linter.unusedVariables false
set_option linter.unusedSimpArgs false
set_option linter.unusedSectionVars false
namespace Go.Proofs.YtfaplndgbgoaaaaGreat
open Go Go.Eng
attribute [local irreducible] V VO VQ VY Quiet QR jB kR Rng uX vB qY
def wW (rec_l32Equate : gI → (List jF) → gG → gD → gD → Int → Option (gG)) (a0 : gI) (a1 : List jF) (a5 : Int) (x5 : gD) : List gD → Nat → Int → Int → Int → (List gH) → (List mP) → (List pO) → Int → Int → Option (gG)
 | [], y49, y41, y42, y43, y44, y45, y46, y47, y48 => (some (gG.mk y41 y42 y43 y44 y45 y46 y47 y48))
 | x52 :: xs, y49, y41, y42, y43, y44, y45, y46, y47, y48 => bnd (at? x5.args (y49 : Int)) fun x53 =>
bnd (rec_l32Equate a0 a1 (gG.mk y41 y42 y43 y44 y45 y46 y47 y48) x52 x53 (IntKind.i64.wrap (a5 - 1))) fun x54 =>
wW rec_l32Equate a0 a1 a5 x5 xs (y49 + 1) x54.next x54.count x54.node x54.bindings x54.equations x54.obligations x54.code x54.at_
def gEz (rec_l32Equate : gI → (List jF) → gG → gD → gD → Int → Option (gG)) (a0 : gI) (a1 : List jF) (a2 : gG) (a3 : gD) (a4 : gD) (a5 : Int) : Option (gG) :=
(cnd (a2.code != 0) (
(some a2)) (
gd (bok (a2 : gG).bindings ∧ tok a3) (lt_ (zkF a2 a3) fun x3 =>
gd (bok (a2 : gG).bindings ∧ tok a4) (lt_ (zkF a2 a4) fun x5 =>
(cnd (teq x3 x5) (
(some a2)) (
lt_ ((cnd (decide (a5 ≤ 0)) (true) ((decide ((IntKind.i64.wrap ((tsz x3) + (tsz x5))) > 2000))))) fun b7 =>
(cnd b7 (
lt_ (yP a2 6) fun x10 =>
(some x10)) (
bnd (gDz x3) fun x11 =>
(cnd x11 (
bnd (gGr a2 x3.name x5) fun x13 =>
(some x13)) (
bnd (gDz x5) fun x14 =>
(cnd x14 (
bnd (gGr a2 x5.name x3) fun x16 =>
(some x16)) (
bnd (gBr a0 a1 x3) fun x17 =>
(cnd (!x17.2.2) (
lt_ (yP a2 7) fun x19 =>
(some x19)) (
(cnd x17.2.1 (
bnd (rec_l32Equate a0 a1 a2 x17.1 x5 (IntKind.i64.wrap (a5 - 1))) fun x21 =>
(some x21)) (
bnd (gBr a0 a1 x5) fun x22 =>
(cnd (!x22.2.2) (
lt_ (yP a2 7) fun x24 =>
(some x24)) (
(cnd x22.2.1 (
bnd (rec_l32Equate a0 a1 a2 x3 x22.1 (IntKind.i64.wrap (a5 - 1))) fun x26 =>
(some x26)) (
lt_ ((cnd (x3.kind == 3) ((cnd (gL0 x3) (true) ((cnd (x5.kind == 3) ((gL0 x5)) (false))))) ((cnd (x5.kind == 3) ((gL0 x5)) (false))))) fun b27 =>
(cnd b27 (
gd (([] : List mP).length + a2.equations.length ≤ 4294967296) (
gd (([] ++ a2.equations).length + [(mP.mk x3 x5 a2.node)].length ≤ 4294967296) (
(some (gG.mk a2.next a2.count a2.node a2.bindings (([] ++ a2.equations) ++ [(mP.mk x3 x5 a2.node)]) a2.obligations a2.code a2.at_))))) (
lt_ ((cnd (x3.kind != x5.kind) (true) ((cnd (!(x3.name == x5.name)) (true) ((cnd ((x3.args.length : Int) != (x5.args.length : Int)) (true) ((x3.kind == 3)))))))) fun b35 =>
(cnd b35 (
lt_ (yP a2 1) fun x40 =>
(some x40)) (
wW rec_l32Equate a0 a1 a5 x5 x3.args 0 a2.next a2.count a2.node a2.bindings a2.equations a2.obligations a2.code a2.at_))))))))))))))))))))))))
theorem gSs {rec_l32Equate : gI → (List jF) → gG → gD → gD → Int → Option (gG)} (hrec_l32Equate : ∀ (x0 : gI) (x1 : List jF) (x2 : gG) (x3 : gD) (x4 : gD) (x5 : Int) {r : gG}, rec_l32Equate x0 x1 x2 x3 x4 x5 = some r → jB Tryz.prog 52 [.d (kS x0), .L 4 (jV x1), .d (mW x2), .d (jQ x3), .d (jQ x4), .I x5] [mW r]) (a0 : gI) (a1 : List jF) (a2 : gG) (a3 : gD) (a4 : gD) (a5 : Int) {r : gG} (h : gEz rec_l32Equate a0 a1 a2 a3 a4 a5 = some r) : jB Tryz.prog 52 [.d (kS a0), .L 4 (jV a1), .d (mW a2), .d (jQ a3), .d (jQ a4), .I a5] [mW r] := by
 obtain ⟨a0_0⟩ := a0
 obtain ⟨a2_0, a2_1, a2_2, a2_3, a2_4, a2_5, a2_6, a2_7⟩ := a2
 obtain ⟨a3_0, a3_1, a3_2⟩ := a3
 obtain ⟨a4_0, a4_1, a4_2⟩ := a4
 unfold gEz at h
 refine SpI Tryz.func52 fun A _ => ?_
 refine goC h ?_ ?_<;>intro c1 h
 ·exact goR h
 ·refine goS ?_
  obtain ⟨g2, h⟩ := pF h
  obtain ⟨⟨x3_0, x3_1, x3_2⟩, hx3, h⟩ := qU h
  have sx3 := gQx (gG.mk a2_0 a2_1 a2_2 a2_3 a2_4 a2_5 a2_6 a2_7) (gD.mk a3_0 a3_1 a3_2) g2
  rw [hx3] at sx3
  refine jH (gF (sx3)) ?_
  obtain ⟨g4, h⟩ := pF h
  obtain ⟨⟨x5_0, x5_1, x5_2⟩, hx5, h⟩ := qU h
  have sx5 := gQx (gG.mk a2_0 a2_1 a2_2 a2_3 a2_4 a2_5 a2_6 a2_7) (gD.mk a4_0 a4_1 a4_2) g4
  rw [hx5] at sx5
  refine jH (gF (sx5)) ?_
  refine kD (jC ?_)
  refine goL ?_
  refine jH (gF (yU (gD.mk x3_0 x3_1 x3_2) (gD.mk x5_0 x5_1 x5_2))) ?_
  refine mF (fun c6 => ?_) (fun c6 => ?_)
  ·replace h := gW c6 h
   exact goR h
  ·replace h := gX c6 h
   obtain ⟨b7, hb7, h⟩ := qU h
   refine qP (P := Tryz.prog) Mix.h ⟨[(1, .L 4 (jV a1)), (5, .I a5), (6, .ptr 0 0), (8, .ptr 1 0), (9, .ptr 2 0), (10, .ptr 3 0), (12, .ptr 4 0), (35, .B b7)], [.box [.L 6 (kK a0_0)], .box [.I a2_0, .I a2_1, .I a2_2, .L 4 (gP a2_3), .L 7 (jP a2_4), .L 5 (jG a2_5), .I a2_6, .I a2_7], .box [.I x3_0, .S x3_1, .L 3 (gJ x3_2)], .box [.I x5_0, .S x5_1, .L 3 (gJ x5_2)], .box [.I 0, .I 0, .I 0, .nilsl, .nilsl, .nilsl, .I 0, .I 0]], Tryz.f52.ntmps⟩ (by kernel_rfl) ?_ ?_
   ·refine goL ?_
    refine wN 38 (fun c8 => ?_) (fun c8 => ?_)
    ·replace hb7 := gW c8 hb7
     refine goL ?_
     cases hb7
     exact eJ
    ·replace hb7 := gX c8 hb7
     refine goL ?_
     refine gBo (gF (gHg (gD.mk x3_0 x3_1 x3_2))) ?_
     refine goL ?_
     refine gBo (gF (gHg (gD.mk x5_0 x5_1 x5_2))) ?_
     refine gBo (qG) ?_
     refine goL ?_
     cases hb7
     exact eJ
   refine goC h ?_ ?_<;>intro c9 h
   ·refine goL ?_
    obtain ⟨⟨x10_0, x10_1, x10_2, x10_3, x10_4, x10_5, x10_6, x10_7⟩, hx10, h⟩ := qU h
    have sx10 := gIg (gG.mk a2_0 a2_1 a2_2 a2_3 a2_4 a2_5 a2_6 a2_7) 6
    rw [hx10] at sx10
    refine qQ (gF (sx10)) ?_
    exact goR h
   ·refine goL ?_
    obtain ⟨x11, hx11, h⟩ := gK h
    refine jH (gF (gKv (gD.mk x3_0 x3_1 x3_2) hx11)) ?_
    refine mF (fun c12 => ?_) (fun c12 => ?_)
    ·replace h := gW c12 h
     refine goL ?_
     obtain ⟨⟨x13_0, x13_1, x13_2, x13_3, x13_4, x13_5, x13_6, x13_7⟩, hx13, h⟩ := gK h
     refine qQ (gF (gR9 (gG.mk a2_0 a2_1 a2_2 a2_3 a2_4 a2_5 a2_6 a2_7) x3_1 (gD.mk x5_0 x5_1 x5_2) hx13)) ?_
     exact goR h
    ·replace h := gX c12 h
     refine goL ?_
     obtain ⟨x14, hx14, h⟩ := gK h
     refine jH (gF (gKv (gD.mk x5_0 x5_1 x5_2) hx14)) ?_
     refine mF (fun c15 => ?_) (fun c15 => ?_)
     ·replace h := gW c15 h
      refine goL ?_
      obtain ⟨⟨x16_0, x16_1, x16_2, x16_3, x16_4, x16_5, x16_6, x16_7⟩, hx16, h⟩ := gK h
      refine qQ (gF (gR9 (gG.mk a2_0 a2_1 a2_2 a2_3 a2_4 a2_5 a2_6 a2_7) x5_1 (gD.mk x3_0 x3_1 x3_2) hx16)) ?_
      exact goR h
     ·replace h := gX c15 h
      refine goS ?_
      obtain ⟨⟨⟨x17_0_0, x17_0_1, x17_0_2⟩, x17_1, x17_2⟩, hx17, h⟩ := gK h
      refine jH (gF (gLl (gI.mk a0_0) a1 (gD.mk x3_0 x3_1 x3_2) hx17)) ?_
      refine mF (fun c18 => ?_) (fun c18 => ?_)
      ·replace h := gW c18 h
       refine goL ?_
       obtain ⟨⟨x19_0, x19_1, x19_2, x19_3, x19_4, x19_5, x19_6, x19_7⟩, hx19, h⟩ := qU h
       have sx19 := gIg (gG.mk a2_0 a2_1 a2_2 a2_3 a2_4 a2_5 a2_6 a2_7) 7
       rw [hx19] at sx19
       refine qQ (gF (sx19)) ?_
       exact goR h
      ·replace h := gX c18 h
       refine goS ?_
       refine mF (fun c20 => ?_) (fun c20 => ?_)
       ·replace h := gW c20 h
        refine goL ?_
        refine qQ (qG) ?_
        obtain ⟨⟨x21_0, x21_1, x21_2, x21_3, x21_4, x21_5, x21_6, x21_7⟩, hx21, h⟩ := gK h
        refine qQ (gF (hrec_l32Equate (gI.mk a0_0) a1 (gG.mk a2_0 a2_1 a2_2 a2_3 a2_4 a2_5 a2_6 a2_7) (gD.mk x17_0_0 x17_0_1 x17_0_2) (gD.mk x5_0 x5_1 x5_2) (IntKind.i64.wrap (a5 - 1)) hx21)) ?_
        exact goR h
       ·replace h := gX c20 h
        refine goS ?_
        obtain ⟨⟨⟨x22_0_0, x22_0_1, x22_0_2⟩, x22_1, x22_2⟩, hx22, h⟩ := gK h
        refine jH (gF (gLl (gI.mk a0_0) a1 (gD.mk x5_0 x5_1 x5_2) hx22)) ?_
        refine mF (fun c23 => ?_) (fun c23 => ?_)
        ·replace h := gW c23 h
         refine goL ?_
         obtain ⟨⟨x24_0, x24_1, x24_2, x24_3, x24_4, x24_5, x24_6, x24_7⟩, hx24, h⟩ := qU h
         have sx24 := gIg (gG.mk a2_0 a2_1 a2_2 a2_3 a2_4 a2_5 a2_6 a2_7) 7
         rw [hx24] at sx24
         refine qQ (gF (sx24)) ?_
         exact goR h
        ·replace h := gX c23 h
         refine goS ?_
         refine mF (fun c25 => ?_) (fun c25 => ?_)
         ·replace h := gW c25 h
          refine goL ?_
          refine qQ (qG) ?_
          obtain ⟨⟨x26_0, x26_1, x26_2, x26_3, x26_4, x26_5, x26_6, x26_7⟩, hx26, h⟩ := gK h
          refine qQ (gF (hrec_l32Equate (gI.mk a0_0) a1 (gG.mk a2_0 a2_1 a2_2 a2_3 a2_4 a2_5 a2_6 a2_7) (gD.mk x3_0 x3_1 x3_2) (gD.mk x22_0_0 x22_0_1 x22_0_2) (IntKind.i64.wrap (a5 - 1)) hx26)) ?_
          exact goR h
         ·replace h := gX c25 h
          refine goS ?_
          obtain ⟨b27, hb27, h⟩ := qU h
          refine jU ⟨[(1, .L 4 (jV a1)), (5, .I a5), (6, .ptr 0 0), (8, .ptr 1 0), (9, .ptr 2 0), (10, .ptr 3 0), (12, .ptr 4 0), (121, .B b27)], [.box [.L 6 (kK a0_0)], .box [.I a2_0, .I a2_1, .I a2_2, .L 4 (gP a2_3), .L 7 (jP a2_4), .L 5 (jG a2_5), .I a2_6, .I a2_7], .box [.I x3_0, .S x3_1, .L 3 (gJ x3_2)], .box [.I x5_0, .S x5_1, .L 3 (gJ x5_2)], .box [.I 0, .I 0, .I 0, .nilsl, .nilsl, .nilsl, .I 0, .I 0], .box [.I x17_0_0, .S x17_0_1, .L 3 (gJ x17_0_2)], .box [.I x22_0_0, .S x22_0_1, .L 3 (gJ x22_0_2)]], Tryz.f52.ntmps⟩ ?_ ?_
          ·refine gQ 109 (fun c28 => ?_) (fun c28 => ?_)
           ·replace hb27 := gW c28 hb27
            refine goL ?_
            refine uB ?_
            refine jH (gF (gQ1 (gD.mk x3_0 x3_1 x3_2))) ?_
            refine gQ 113 (fun c29 => ?_) (fun c29 => ?_)
            ·replace hb27 := gW c29 hb27
             refine goL ?_
             cases hb27
             exact eJ
            ·replace hb27 := gX c29 hb27
             refine goL ?_
             refine gQ 117 (fun c30 => ?_) (fun c30 => ?_)
             ·replace hb27 := gW c30 hb27
              refine goL ?_
              refine uB ?_
              refine jH (gF (gQ1 (gD.mk x5_0 x5_1 x5_2))) ?_
              cases hb27
              exact eJ
             ·replace hb27 := gX c30 hb27
              refine goL ?_
              cases hb27
              exact eJ
           ·replace hb27 := gX c28 hb27
            refine goL ?_
            refine gQ 117 (fun c31 => ?_) (fun c31 => ?_)
            ·replace hb27 := gW c31 hb27
             refine goL ?_
             refine uB ?_
             refine jH (gF (gQ1 (gD.mk x5_0 x5_1 x5_2))) ?_
             cases hb27
             exact eJ
            ·replace hb27 := gX c31 hb27
             refine goL ?_
             cases hb27
             exact eJ
          refine goC h ?_ ?_<;>intro c32 h
          ·obtain ⟨g33, h⟩ := pF h
           obtain ⟨g34, h⟩ := pF h
           refine uW (P := Tryz.prog) Mix.h (.q 1 (.q 2 (.q 4 (.q 5 (.q 6 (.q 7 (.q 8 (.h 0 (.h 3 (.h 9 (.h 10 (.q 11 (.h 12 .nil .nil)) .nil) .nil) (.h 9 (.h 3 (.h 10 (.q 11 (.h 12 .nil .nil)) .nil) .nil) .nil)) (.h 9 (.h 0 (.h 3 (.h 10 (.q 11 (.h 12 .nil .nil)) .nil) .nil) .nil) .nil))))))))) ⟨[(8, .ptr 1 0), (12, .ptr 4 0)], [.box [.L 6 (kK a0_0)], .box [.I a2_0, .I a2_1, .I a2_2, .L 4 (gP a2_3), .sl 7 ((0 + 1) + 1), .L 5 (jG a2_5), .I a2_6, .I a2_7], .box [.I x3_0, .S x3_1, .L 3 (gJ x3_2)], .box [.I x5_0, .S x5_1, .L 3 (gJ x5_2)], .box [.I 0, .I 0, .I 0, .nilsl, .nilsl, .nilsl, .I 0, .I 0], .box [.I x17_0_0, .S x17_0_1, .L 3 (gJ x17_0_2)], .box [.I x22_0_0, .S x22_0_1, .L 3 (gJ x22_0_2)], .arr 104 7 ((0 + 1) + 1) (jP (([] ++ a2_4) ++ [(mP.mk (gD.mk x3_0 x3_1 x3_2) (gD.mk x5_0 x5_1 x5_2) a2_2)])), .arr 104 7 0 (jP [(mP.mk (gD.mk x3_0 x3_1 x3_2) (gD.mk x5_0 x5_1 x5_2) a2_2)])], Tryz.f52.ntmps⟩ (by kernel_rfl) ?_ ?_
           ·refine goT ?_
            refine wO (gUq jS) ?_ ?_
            ·refine wO (pV (T := 25) g33 jS) ?_ ?_
             ·refine jR (pY (T := 25) (us := jP [(mP.mk (gD.mk x3_0 x3_1 x3_2) (gD.mk x5_0 x5_1 x5_2) a2_2)]) jS) ?_
              refine jR (pV (T := 25) g34 jS) ?_
              refine goT ?_
              refine jX ?_
              exact vC 0 [0, 1, 2, 3, 4, 5, 6, 7, 8]
             refine jR (pY (T := 25) (us := jP [(mP.mk (gD.mk x3_0 x3_1 x3_2) (gD.mk x5_0 x5_1 x5_2) a2_2)]) jS) ?_
             refine jR (pV (T := 25) g33 jS) ?_
             refine jR (pV (T := 25) g34 jS) ?_
             refine goT ?_
             refine jX ?_
             exact vC 0 [0, 1, 2, 3, 4, 5, 6, 7, 8]
            refine jR (pY (T := 25) (us := jP [(mP.mk (gD.mk x3_0 x3_1 x3_2) (gD.mk x5_0 x5_1 x5_2) a2_2)]) jS) ?_
            refine jR (gUq jS) ?_
            refine jR (pV (T := 25) g33 jS) ?_
            refine jR (pV (T := 25) g34 jS) ?_
            refine goT ?_
            refine jX ?_
            exact vC 0 [0, 1, 2, 3, 4, 5, 6, 8, 7]
           refine goL ?_
           refine kI 7 rfl rfl ?_
           refine jN ?_
           cases h
           exact qH
          ·refine goS ?_
           obtain ⟨b35, hb35, h⟩ := qU h
           refine jU ⟨[(1, .L 4 (jV a1)), (5, .I a5), (6, .ptr 0 0), (8, .ptr 1 0), (9, .ptr 2 0), (10, .ptr 3 0), (12, .ptr 4 0), (160, .B b35)], [.box [.L 6 (kK a0_0)], .box [.I a2_0, .I a2_1, .I a2_2, .L 4 (gP a2_3), .L 7 (jP a2_4), .L 5 (jG a2_5), .I a2_6, .I a2_7], .box [.I x3_0, .S x3_1, .L 3 (gJ x3_2)], .box [.I x5_0, .S x5_1, .L 3 (gJ x5_2)], .box [.I 0, .I 0, .I 0, .nilsl, .nilsl, .nilsl, .I 0, .I 0], .box [.I x17_0_0, .S x17_0_1, .L 3 (gJ x17_0_2)], .box [.I x22_0_0, .S x22_0_1, .L 3 (gJ x22_0_2)]], Tryz.f52.ntmps⟩ ?_ ?_
           ·refine gQ 140 (fun c36 => ?_) (fun c36 => ?_) (by first | rfl | (simp only [jM, gZ]; rfl))
            ·replace hb35 := gW c36 hb35
             refine goL ?_
             cases hb35
             exact ⟨rfl, ⟨⟨rfl, rfl⟩, ⟨rfl, rfl⟩, ⟨rfl, rfl⟩, ⟨rfl, rfl⟩, ⟨rfl, rfl⟩, ⟨rfl, rfl⟩, ⟨rfl, rfl⟩, ⟨by first | rfl | (simp only [jM, gZ]; rfl), rfl⟩, trivial⟩, ⟨_, rfl⟩, rfl⟩
            ·replace hb35 := gX c36 hb35
             refine goL ?_
             refine gQ 147 (fun c37 => ?_) (fun c37 => ?_) (by first | rfl | (simp only [jM, gZ]; rfl))
             ·replace hb35 := gW c37 hb35
              refine goL ?_
              cases hb35
              exact ⟨rfl, ⟨⟨rfl, rfl⟩, ⟨rfl, rfl⟩, ⟨rfl, rfl⟩, ⟨rfl, rfl⟩, ⟨rfl, rfl⟩, ⟨rfl, rfl⟩, ⟨rfl, rfl⟩, ⟨by first | rfl | (simp only [jM, gZ]; rfl), rfl⟩, trivial⟩, ⟨_, rfl⟩, rfl⟩
             ·replace hb35 := gX c37 hb35
              refine goL ?_
              refine gQ 156 (fun c38 => ?_) (fun c38 => ?_) (by first | rfl | (simp only [jM, gZ]; rfl))
              ·replace hb35 := gW c38 hb35
               refine goL ?_
               cases hb35
               exact ⟨rfl, ⟨⟨rfl, rfl⟩, ⟨rfl, rfl⟩, ⟨rfl, rfl⟩, ⟨rfl, rfl⟩, ⟨rfl, rfl⟩, ⟨rfl, rfl⟩, ⟨rfl, rfl⟩, ⟨by first | rfl | (simp only [jM, gZ]; rfl), rfl⟩, trivial⟩, ⟨_, rfl⟩, rfl⟩
              ·replace hb35 := gX c38 hb35
               refine goL ?_
               cases hb35
               exact ⟨rfl, ⟨⟨rfl, rfl⟩, ⟨rfl, rfl⟩, ⟨rfl, rfl⟩, ⟨rfl, rfl⟩, ⟨rfl, rfl⟩, ⟨rfl, rfl⟩, ⟨rfl, rfl⟩, ⟨by first | rfl | (simp only [jM, gZ]; rfl), rfl⟩, trivial⟩, ⟨_, rfl⟩, rfl⟩
           refine goC h ?_ ?_<;>intro c39 h
           ·refine goL ?_
            obtain ⟨⟨x40_0, x40_1, x40_2, x40_3, x40_4, x40_5, x40_6, x40_7⟩, hx40, h⟩ := qU h
            have sx40 := gIg (gG.mk a2_0 a2_1 a2_2 a2_3 a2_4 a2_5 a2_6 a2_7) 1
            rw [hx40] at sx40
            refine qQ (gF (sx40)) ?_
            exact goR h
           ·refine goS ?_
            refine noB ?_
            refine vJ 2 2 (fun z50 => ?_)
            refine gYr (fun (y49 : Nat) (y41 : Int) (y42 : Int) (y43 : Int) (y44 : List gH) (y45 : List mP) (y46 : List pO) (y47 : Int) (y48 : Int) => ⟨[(1, .L 4 (jV a1)), (5, .I a5), (6, .ptr 0 0), (8, .ptr 1 0), (9, .ptr 2 0), (10, .ptr 3 0), (12, .ptr 4 0), (19, .N y49)], [.box [.L 6 (kK a0_0)], .box [.I y41, .I y42, .I y43, .L 4 (gP y44), .L 7 (jP y45), .L 5 (jG y46), .I y47, .I y48], .box [.I x3_0, .S x3_1, .L 3 (gJ x3_2)], .box [.I x5_0, .S x5_1, .L 3 (gJ x5_2)], .box [.I 0, .I 0, .I 0, .nilsl, .nilsl, .nilsl, .I 0, .I 0], .box [.I x17_0_0, .S x17_0_1, .L 3 (gJ x17_0_2)], .box [.I x22_0_0, .S x22_0_1, .L 3 (gJ x22_0_2)]], Tryz.f52.ntmps⟩) (fun y49 y41 y42 y43 y44 y45 y46 y47 y48 => wW rec_l32Equate (gI.mk a0_0) a1 a5 (gD.mk x5_0 x5_1 x5_2) (x3_2.drop y49) y49 y41 y42 y43 y44 y45 y46 y47 y48 = some r) (fun y49 y41 y42 y43 y44 y45 y46 y47 y48 => x3_2.length - y49) 0 a2_0 a2_1 a2_2 a2_3 a2_4 a2_5 a2_6 a2_7 eJ h ?_
            rintro y49 y41 y42 y43 y44 y45 y46 y47 y48 h
            refine goL ?_
            refine mF (fun c51 => ?_) (fun c51 => ?_)
            ·have hky492 := vO c51
             obtain ⟨x52, hx52, hdx52⟩ := drop_at hky492
             rw [hdx52, wW.eq_2] at h
             obtain ⟨x52_0, x52_1, x52_2⟩ := x52
             refine noS ?_
             refine kD (jC ?_)
             refine vH (P := Tryz.prog) Mix.h [(0, true), (1, true), (2, true), (3, true), (4, true), (5, true), (6, true), (7, true), (8, true), (9, true), (10, true), (11, true), (12, true), (13, true), (14, true), (15, true), (16, false)] (by kernel_rfl) ?_
             refine goY ?_
             refine jD rfl (jJ y49 (gA5 hx52)) ?_
             refine goY ?_
             obtain ⟨x53, hx53, h⟩ := gK h
             rw [gEa] at hx53
             obtain ⟨x53_0, x53_1, x53_2⟩ := x53
             refine jD rfl (jJ y49 (gA5 hx53)) ?_
             refine goY ?_
             refine jD rfl (qG) ?_
             obtain ⟨⟨x54_0, x54_1, x54_2, x54_3, x54_4, x54_5, x54_6, x54_7⟩, hx54, h⟩ := gK h
             refine jD rfl (gF (hrec_l32Equate (gI.mk a0_0) a1 (gG.mk y41 y42 y43 y44 y45 y46 y47 y48) (gD.mk x52_0 x52_1 x52_2) (gD.mk x53_0 x53_1 x53_2) (IntKind.i64.wrap (a5 - 1)) hx54)) ?_
             refine goY ?_
             refine kP ?_
             refine goL ?_
             refine jH (jT y49 (by omega)) ?_
             exact ⟨(y49 + 1), x54_0, x54_1, x54_2, x54_3, x54_4, x54_5, x54_6, x54_7, h, by omega, eJ⟩
            ·have hky492 := vP c51
             rw [jE hky492, wW.eq_1] at h
             refine goX ?_
             refine jN ?_
             cases h
             exact qH
def wX : Nat → gI → (List jF) → gG → gD → gD → Int → Option (gG)
 | 0, _, _, _, _, _, _ => none
 | n + 1, x0, x1, x2, x3, x4, x5 => gEz (wX n) x0 x1 x2 x3 x4 x5
theorem gSt : ∀ (n : Nat) (x0 : gI) (x1 : List jF) (x2 : gG) (x3 : gD) (x4 : gD) (x5 : Int) {r : gG}, wX n x0 x1 x2 x3 x4 x5 = some r → jB Tryz.prog 52 [.d (kS x0), .L 4 (jV x1), .d (mW x2), .d (jQ x3), .d (jQ x4), .I x5] [mW r] := by
 intro n
 induction n with
 | zero => intro x0 x1 x2 x3 x4 x5 r h; cases h
 | succ n ih => intro x0 x1 x2 x3 x4 x5 r h; exact gSs ih x0 x1 x2 x3 x4 x5 h
def wQ (a0 : qW) : List pU → (List (List UInt8)) → Option (Bool)
 | [], y1 => lt_ ((cnd a0.auto ((cnd a0.assoc (true) ((cnd (decide ((a0.signatures.length : Int) > 0)) (true) ((decide ((a0.supertraits.length : Int) > 0))))))) (false))) fun b10 =>
(cnd b10 (
(some false)) (
bnd ((cnd (kV a0.name) (bnd (vX a0.supertraits 4) fun x17 =>
(cnd x17 (bnd (vX y1 6) fun x19 =>
(some x19)) ((some false)))) ((some false)))) fun b15 =>
(some b15)))
 | x6 :: xs, y1 => bnd (gPf x6) fun x7 =>
(cnd (!x7) (
(some false)) (
gd (y1.length + [x6.name].length ≤ 4294967296) (
wQ a0 xs (y1 ++ [x6.name]))))
def gB5 (a0 : qW) : Option (Bool) :=
wQ a0 a0.signatures []
theorem gHy (a0 : qW) {r : Bool} (h : gB5 a0 = some r) : jB Tryz.prog 116 [.d (gKh a0)] [.b r] := by
 obtain ⟨a0_0, a0_1, a0_2, a0_3, a0_4⟩ := a0
 unfold gB5 at h
 refine SpI Tryz.func116 fun A _ => ?_
 refine goL ?_
 refine gFh ?_
 refine goL ?_
 refine noB ?_
 refine vJ 0 4 (fun z4 => ?_)
 refine kQ (fun (y3 : Nat) (y1 : List (List UInt8)) (v2 : Nat) => ⟨[(1, .ptr 0 0), (3, .sl 1 v2), (4, .N y3)], [.box [.S a0_0, .L 1 (gY a0_1), .B a0_2, .B a0_3, .L 16 (kT a0_4)], .own 9 1 v2 (gY y1)], Tryz.f116.ntmps⟩) (fun y3 y1 v2 => wQ (qW.mk a0_0 a0_1 a0_2 a0_3 a0_4) (a0_4.drop y3) y1 = some r) (fun y3 y1 v2 => a0_4.length - y3) 0 [] 0 eJ h ?_
 rintro y3 y1 v2 h
 refine goL ?_
 refine mF (fun c5 => ?_) (fun c5 => ?_)
 ·have hky32 := vO c5
  obtain ⟨x6, hx6, hdx6⟩ := drop_at hky32
  rw [hdx6, wQ.eq_2] at h
  obtain ⟨x6_0, x6_1, ⟨x6_2_0, x6_2_1, x6_2_2⟩, x6_3, x6_4, ⟨x6_5_0, x6_5_1, x6_5_2, x6_5_3, ⟨x6_5_4_0, x6_5_4_1, x6_5_4_2⟩, x6_5_5, x6_5_6⟩⟩ := x6
  refine noS ?_
  refine kD (jC ?_)
  refine goL ?_
  refine jH (jJ y3 (gK9 hx6)) ?_
  obtain ⟨x7, hx7, h⟩ := gK h
  refine jH (gF (gZ6 (pU.mk x6_0 x6_1 (gD.mk x6_2_0 x6_2_1 x6_2_2) x6_3 x6_4 (jO.mk x6_5_0 x6_5_1 x6_5_2 x6_5_3 (gD.mk x6_5_4_0 x6_5_4_1 x6_5_4_2) x6_5_5 x6_5_6)) hx7)) ?_
  refine mF (fun c8 => ?_) (fun c8 => ?_)
  ·replace h := gW c8 h
   exact goR h
  ·replace h := gX c8 h
   refine goS ?_
   refine jH (jJ y3 (gK9 hx6)) ?_
   refine gA7 x6_0 ?_
   obtain ⟨g9, h⟩ := pF h
   refine gGo g9 ?_
   refine goL ?_
   refine jH (jT y3 (by omega)) ?_
   exact ⟨(y3 + 1), (y1 ++ [x6_0]), (v2 + 1), h, by omega, eJ⟩
 ·have hky32 := vP c5
  rw [jE hky32, wQ.eq_1] at h
  refine goX ?_
  obtain ⟨b10, hb10, h⟩ := qU h
  refine jU ⟨[(1, .ptr 0 0), (3, .sl 1 v2), (46, .B b10)], [.box [.S a0_0, .L 1 (gY a0_1), .B a0_2, .B a0_3, .L 16 (kT a0_4)], .own 9 1 v2 (gY y1)], Tryz.f116.ntmps⟩ ?_ ?_
  ·refine gQ 31 (fun c11 => ?_) (fun c11 => ?_)
   ·replace hb10 := gW c11 hb10
    refine goL ?_
    refine gQ 34 (fun c12 => ?_) (fun c12 => ?_)
    ·replace hb10 := gW c12 hb10
     refine goL ?_
     cases hb10
     exact eJ
    ·replace hb10 := gX c12 hb10
     refine goL ?_
     refine gQ 40 (fun c13 => ?_) (fun c13 => ?_)
     ·replace hb10 := gW c13 hb10
      refine goL ?_
      cases hb10
      exact eJ
     ·replace hb10 := gX c13 hb10
      refine goL ?_
      cases hb10
      exact eJ
   ·replace hb10 := gX c11 hb10
    refine goL ?_
    cases hb10
    exact eJ
  refine goC h ?_ ?_<;>intro c14 h
  ·exact goR h
  ·refine goS ?_
   refine jH (gF (pI a0_0)) ?_
   obtain ⟨b15, hb15, h⟩ := gK h
   refine jU ⟨[(2, .B b15)], [.box [.S a0_0, .L 1 (gY a0_1), .B a0_2, .B a0_3, .L 16 (kT a0_4)], .own 9 1 v2 (gY y1)], Tryz.f116.ntmps⟩ ?_ ?_
   ·refine gQ 50 (fun c16 => ?_) (fun c16 => ?_)
    ·replace hb15 := gW c16 hb15
     refine goL ?_
     refine uB ?_
     obtain ⟨x17, hx17, hb15⟩ := gK hb15
     refine jH (gF (yH a0_1 4 hx17)) ?_
     refine gQ 55 (fun c18 => ?_) (fun c18 => ?_)
     ·replace hb15 := gW c18 hb15
      refine goL ?_
      refine uB ?_
      obtain ⟨x19, hx19, hb15⟩ := gK hb15
      refine gFj (gSm (yH y1 6 hx19)) ?_
      cases hb15
      exact eJ
     ·replace hb15 := gX c18 hb15
      refine goL ?_
      cases hb15
      exact eJ
    ·replace hb15 := gX c16 hb15
     refine goL ?_
     cases hb15
     exact eJ
   exact goR h
def uO (a0 : gB) (x1 : gB) (x3 : List (List UInt8)) : List gB → (List pK) → Option (kW × Bool)
 | [], y5 => bnd (bnd (pW a0) fun x16 =>
(cnd (!x16) ((some true)) ((cnd ((a0.list.length : Int) == 0) ((some true)) (bnd (gB4 (kW.mk x1.atom x3 y5)) fun x19 =>
bnd (gAt 5000 x19 a0) fun x20 =>
(some (!x20))))))) fun b15 =>
(cnd b15 (
(some ((kW.mk [] [] []), false))) (
(some ((kW.mk x1.atom x3 y5), true))))
 | x10 :: xs, y5 => bnd (pX x10 0) fun x11 =>
bnd (gGi x10 1) fun x12 =>
bnd (gMh x12) fun x13 =>
gd (y5.length + [(pK.mk x11.atom x13)].length ≤ 4294967296) (
uO a0 x1 x3 xs (y5 ++ [(pK.mk x11.atom x13)]))
def gB6 (a0 : gB) : Option (kW × Bool) :=
bnd (pX a0 1) fun x1 =>
bnd (pX a0 2) fun x2 =>
bnd (gAw x2) fun x3 =>
bnd (gGi a0 3) fun x4 =>
uO a0 x1 x3 x4 []
theorem gJ1 (a0 : gB) {r : kW × Bool} (h : gB6 a0 = some r) : jB Tryz.prog 88 [.d (mD a0)] [gDs r.1, .b r.2] := by
 obtain ⟨a0_0, a0_1⟩ := a0
 unfold gB6 at h
 refine SpI Tryz.func88 fun A _ => ?_
 refine gIx ?_
 refine jL (P := Tryz.prog) Mix.h [(0, true), (1, true), (2, true), (3, true), (4, true), (5, true), (6, true), (7, false), (8, false)] (by kernel_rfl) ?_
 refine goY ?_
 obtain ⟨⟨x1_0, x1_1⟩, hx1, h⟩ := gK h
 refine jD rfl (gF (qI (gB.mk a0_0 a0_1) 1 hx1)) ?_
 refine jD rfl (gF1) ?_
 refine goY ?_
 obtain ⟨⟨x2_0, x2_1⟩, hx2, h⟩ := gK h
 refine jD rfl (gF (qI (gB.mk a0_0 a0_1) 2 hx2)) ?_
 obtain ⟨x3, hx3, h⟩ := gK h
 refine jD rfl (gF (gCv (gB.mk x2_0 x2_1) hx3)) ?_
 refine goY ?_
 refine kP ?_
 refine goL ?_
 obtain ⟨x4, hx4, h⟩ := gK h
 refine jH (gF (gKa (gB.mk a0_0 a0_1) 3 hx4)) ?_
 refine noB ?_
 refine yF 186 2 2 2 rfl rfl (by repeat constructor) (by repeat constructor) (by repeat constructor) (by repeat constructor) ?_
 show V _ _ _ _ _
 refine gEk 5 (fun z8 => ?_)
 refine kQ (fun (y7 : Nat) (y5 : List pK) (v6 : Nat) => ⟨[(1, .ptr 0 0), (2, .ptr 1 0), (4, .ptr 2 0), (5, .L 2 (gM x4)), (6, .N y7)], [.box [.S a0_0, .L 2 (gM a0_1)], .box [.S [], .nilsl, .nilsl], .box [.S x1_0, .L 1 (gY x3), .sl 3 v6], .arr 186 2 v6 (mQ y5)], Tryz.f88.ntmps⟩) (fun y7 y5 v6 => uO (gB.mk a0_0 a0_1) (gB.mk x1_0 x1_1) x3 (x4.drop y7) y5 = some r) (fun y7 y5 v6 => x4.length - y7) 0 [] 0 eJ h ?_
 rintro y7 y5 v6 h
 refine goL ?_
 refine mF (fun c9 => ?_) (fun c9 => ?_)
 ·have hky72 := vO c9
  obtain ⟨x10, hx10, hdx10⟩ := drop_at hky72
  rw [hdx10, uO.eq_2] at h
  obtain ⟨x10_0, x10_1⟩ := x10
  refine noS ?_
  refine kD (jC ?_)
  refine vH (P := Tryz.prog) Mix.h [(0, true), (1, true), (2, true), (3, true), (4, true), (5, true), (6, true), (7, true), (8, true), (9, true), (10, true), (11, true), (12, true), (13, true), (14, true), (15, false), (16, false), (17, true), (18, false)] (by kernel_rfl) ?_
  refine goY ?_
  refine jD rfl (jJ y7 (qO hx10)) ?_
  refine goY ?_
  obtain ⟨⟨x11_0, x11_1⟩, hx11, h⟩ := gK h
  refine jD rfl (gF (qI (gB.mk x10_0 x10_1) 0 hx11)) ?_
  refine jD rfl (gF1) ?_
  refine goY ?_
  refine jD rfl (jJ y7 (qO hx10)) ?_
  refine goY ?_
  obtain ⟨x12, hx12, h⟩ := gK h
  refine jD rfl (gF (gKa (gB.mk x10_0 x10_1) 1 hx12)) ?_
  obtain ⟨x13, hx13, h⟩ := gK h
  refine jD rfl (gF (gU2 x12 hx13)) ?_
  refine goY ?_
  refine pY (T := 142) (us := mQ [(pK.mk x11_0 x13)]) ?_
  obtain ⟨g14, h⟩ := pF h
  refine pV (T := 142) g14 ?_
  refine goY ?_
  refine kP ?_
  refine goL ?_
  refine jH (jT y7 (by omega)) ?_
  exact ⟨(y7 + 1), (y5 ++ [(pK.mk x11_0 x13)]), (v6 + 1), h, by omega, eJ⟩
 ·have hky72 := vP c9
  rw [jE hky72, uO.eq_1] at h
  refine noX ?_
  refine gIx ?_
  refine kI 3 rfl rfl ?_
  obtain ⟨b15, hb15, h⟩ := gK h
  refine qP (P := Tryz.prog) Mix.h ⟨[(2, .ptr 1 0), (4, .ptr 2 0), (55, .B b15)], [.box [.S a0_0, .L 2 (gM a0_1)], .box [.S [], .nilsl, .nilsl], .box [.S x1_0, .L 1 (gY x3), .sl 3 v6], .frz 186 2 v6 (mQ y5)], Tryz.f88.ntmps⟩ (by kernel_rfl) ?_ ?_
  ·refine goL ?_
   obtain ⟨x16, hx16, hb15⟩ := gK hb15
   refine gCr (gF (wC (gB.mk a0_0 a0_1) hx16)) ?_
   refine goL ?_
   refine wN 43 (fun c17 => ?_) (fun c17 => ?_)
   ·replace hb15 := gW c17 hb15
    refine goL ?_
    cases hb15
    exact eJ
   ·replace hb15 := gX c17 hb15
    refine goL ?_
    refine wN 49 (fun c18 => ?_) (fun c18 => ?_)
    ·replace hb15 := gW c18 hb15
     refine goL ?_
     cases hb15
     exact eJ
    ·replace hb15 := gX c18 hb15
     refine goL ?_
     obtain ⟨⟨x19_0, x19_1⟩, hx19, hb15⟩ := gK hb15
     refine hBj (gX3 (gJ0 (kW.mk x1_0 x3 y5) hx19)) ?_
     refine goL ?_
     obtain ⟨x20, hx20, hb15⟩ := gK hb15
     refine gBo (gF (gEd 5000 (gB.mk x19_0 x19_1) (gB.mk a0_0 a0_1) hx20)) ?_
     refine goL ?_
     cases hb15
     exact eJ
  refine goC h ?_ ?_<;>intro c21 h
  ·refine goL ?_
   refine gBm (kE TBd.h TZ.h rfl (by repeat constructor)) ?_
   exact goR h
  ·refine goS ?_
   refine jN ?_
   cases h
   exact qH
end Go.Proofs.YtfaplndgbgoaaaaGreat
