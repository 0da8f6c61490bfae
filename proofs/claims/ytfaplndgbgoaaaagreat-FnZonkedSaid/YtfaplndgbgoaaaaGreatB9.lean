import Derived.Test.YtfaplndgbgoaaaaGreatEng38
import Derived.Test.YtfaplndgbgoaaaaGreatEng67
import Derived.Test.YtfaplndgbgoaaaaGreatB2
import Derived.Test.YtfaplndgbgoaaaaGreatB5
import Derived.Test.YtfaplndgbgoaaaaGreatB6
set_option maxHeartbeats 4000000
set_option linter.unusedVariables false
set_option linter.unusedSimpArgs false
set_option linter.unusedSectionVars false
namespace Go.Proofs.YtfaplndgbgoaaaaGreat
open Go Go.Eng
attribute [local irreducible] V VO VQ VY Quiet QR jB kR Rng uX vB qY
def gPq (rec_l12Arm : gB → Option (gJq)) (rec_l12Exprs : (List gB) → Option (List jO)) (rec_l12Expr : gB → Option (jO)) (a0 : gB) : Option (gJq) :=
(cnd (decide ((a0.list.length : Int) < 2)) (
(some (gJq.mk [] [] (jO.mk 0 [] [] 0 (gD.mk 0 [] []) [] [])))) (
gd (0 ≤ (1 : Int) ∧ (1 : Int) ≤ (IntKind.i64.wrap ((a0.list.length : Int) - 1)) ∧ (IntKind.i64.wrap ((a0.list.length : Int) - 1)) ≤ (a0.list.length : Int)) (
bnd (gHz ((a0.list.drop (Int.toNat 1)).take (Int.toNat (IntKind.i64.wrap ((a0.list.length : Int) - 1)) - Int.toNat 1))) fun x3 =>
bnd (at? a0.list 0) fun x4 =>
bnd (at? a0.list (IntKind.i64.wrap ((a0.list.length : Int) - 1))) fun x5 =>
bnd (rec_l12Expr x5) fun x6 =>
(some (gJq.mk x4.atom x3.1 x6)))))
theorem hAo {rec_l12Arm : gB → Option (gJq)} {rec_l12Exprs : (List gB) → Option (List jO)} {rec_l12Expr : gB → Option (jO)} (hrec_l12Arm : ∀ (x0 : gB) {r : gJq}, rec_l12Arm x0 = some r → jB Tryz.prog 129 [.d (mD x0)] [gZ2 r]) (hrec_l12Exprs : ∀ (x0 : List gB) {r : List jO}, rec_l12Exprs x0 = some r → jB Tryz.prog 128 [.L 2 (gM x0)] [.sl 9 (kM r)]) (hrec_l12Expr : ∀ (x0 : gB) {r : jO}, rec_l12Expr x0 = some r → jB Tryz.prog 106 [.d (mD x0)] [yO r]) (a0 : gB) {r : gJq} (h : gPq rec_l12Arm rec_l12Exprs rec_l12Expr a0 = some r) : jB Tryz.prog 129 [.d (mD a0)] [gZ2 r] := by
 obtain ⟨a0_0, a0_1⟩ := a0
 unfold gPq at h
 refine SpI Tryz.func129 fun A _ => ?_
 refine goC h ?_ ?_<;>intro c1 h
 ·refine goL ?_
  refine gBm (kE TBd.h TZ.h rfl (by repeat constructor)) ?_
  exact goR h
 ·refine goS ?_
  refine qQ (qG) ?_
  obtain ⟨g2, h⟩ := pF h
  refine qQ (hDm g2) ?_
  obtain ⟨⟨x3_0, x3_1⟩, hx3, h⟩ := gK h
  refine qQ (gF (gMs ((a0_1.drop (Int.toNat 1)).take (Int.toNat (IntKind.i64.wrap ((a0_1.length : Int) - 1)) - Int.toNat 1)) hx3)) ?_
  refine gIx ?_
  refine jL (P := Tryz.prog) Mix.h [(0, true), (1, true), (2, true), (3, true), (4, true), (5, true), (6, true), (7, true), (8, true), (9, true), (10, true), (11, true), (12, true), (13, true), (14, false)] (by kernel_rfl) ?_
  refine goY ?_
  obtain ⟨x4, hx4, h⟩ := gK h
  obtain ⟨hx40, hx4⟩ := gD9 hx4
  obtain ⟨x4_0, x4_1⟩ := x4
  refine jD rfl (qV hx40 (qO hx4)) ?_
  refine goY ?_
  refine jD rfl (qG) ?_
  obtain ⟨x5, hx5, h⟩ := gK h
  obtain ⟨hx50, hx5⟩ := gD9 hx5
  obtain ⟨x5_0, x5_1⟩ := x5
  refine jD rfl (qV hx50 (qO hx5)) ?_
  refine goY ?_
  obtain ⟨⟨x6_0, x6_1, x6_2, x6_3, ⟨x6_4_0, x6_4_1, x6_4_2⟩, x6_5, x6_6⟩, hx6, h⟩ := gK h
  refine jD rfl (gF (hrec_l12Expr (gB.mk x5_0 x5_1) hx6)) ?_
  refine goY ?_
  refine kP ?_
  exact goR h
def gCj (rec_l12Expr : gB → Option (jO)) : List gB → (List jO) → Option (List jO)
 | [], y1 => (some y1)
 | x6 :: xs, y1 => bnd (rec_l12Expr x6) fun x7 =>
gd (y1.length + [x7].length ≤ 4294967296) (
gCj rec_l12Expr xs (y1 ++ [x7]))
def gK7 (rec_l12Arm : gB → Option (gJq)) (rec_l12Exprs : (List gB) → Option (List jO)) (rec_l12Expr : gB → Option (jO)) (a0 : List gB) : Option (List jO) :=
gCj rec_l12Expr a0 []
theorem gVy {rec_l12Arm : gB → Option (gJq)} {rec_l12Exprs : (List gB) → Option (List jO)} {rec_l12Expr : gB → Option (jO)} (hrec_l12Arm : ∀ (x0 : gB) {r : gJq}, rec_l12Arm x0 = some r → jB Tryz.prog 129 [.d (mD x0)] [gZ2 r]) (hrec_l12Exprs : ∀ (x0 : List gB) {r : List jO}, rec_l12Exprs x0 = some r → jB Tryz.prog 128 [.L 2 (gM x0)] [.sl 9 (kM r)]) (hrec_l12Expr : ∀ (x0 : gB) {r : jO}, rec_l12Expr x0 = some r → jB Tryz.prog 106 [.d (mD x0)] [yO r]) (a0 : List gB) {r : List jO} (h : gK7 rec_l12Arm rec_l12Exprs rec_l12Expr a0 = some r) : jB Tryz.prog 128 [.L 2 (gM a0)] [.sl 9 (kM r)] := by
 unfold gK7 at h
 refine SpI Tryz.func128 fun A _ => ?_
 refine goL ?_
 refine gAc ?_
 refine goL ?_
 refine noB ?_
 refine gEk 0 (fun z4 => ?_)
 refine kQ (fun (y3 : Nat) (y1 : List jO) (v2 : Nat) => ⟨[(0, .L 2 (gM a0)), (3, .sl 0 v2), (4, .N y3)], [.arr 156 9 v2 (kM y1)], Tryz.f128.ntmps⟩) (fun y3 y1 v2 => gCj rec_l12Expr (a0.drop y3) y1 = some r) (fun y3 y1 v2 => a0.length - y3) 0 [] 0 eJ h ?_
 rintro y3 y1 v2 h
 refine goL ?_
 refine mF (fun c5 => ?_) (fun c5 => ?_)
 ·have hky32 := vO c5
  obtain ⟨x6, hx6, hdx6⟩ := drop_at hky32
  rw [hdx6, gCj.eq_2] at h
  obtain ⟨x6_0, x6_1⟩ := x6
  refine noS ?_
  refine kD (jC ?_)
  refine goL ?_
  refine jH (jJ y3 (qO hx6)) ?_
  obtain ⟨⟨x7_0, x7_1, x7_2, x7_3, ⟨x7_4_0, x7_4_1, x7_4_2⟩, x7_5, x7_6⟩, hx7, h⟩ := gK h
  refine qQ (gF (hrec_l12Expr (gB.mk x6_0 x6_1) hx7)) ?_
  refine gBc (u := (.st [.i .i64 x7_0, .s x7_1, .s x7_2, .i .i64 x7_3, .st [.i .i64 x7_4_0, .s x7_4_1, .sl 3 (gJ x7_4_2)], .sl 9 (kM x7_5), .sl 11 (qD x7_6)])) ?_
  obtain ⟨g8, h⟩ := pF h
  refine gBu g8 ?_
  refine goL ?_
  refine jH (jT y3 (by omega)) ?_
  exact ⟨(y3 + 1), (y1 ++ [(jO.mk x7_0 x7_1 x7_2 x7_3 (gD.mk x7_4_0 x7_4_1 x7_4_2) x7_5 x7_6)]), (v2 + 1), h, by omega, eJ⟩
 ·have hky32 := vP c5
  rw [jE hky32, gCj.eq_1] at h
  refine goX ?_
  refine kI 0 rfl rfl ?_
  refine jN ?_
  cases h
  exact qH
def gDm (rec_l12Arm : gB → Option (gJq)) (x37 : List jO) : List gB → (List gJq) → Option (jO)
 | [], y38 => (some (jO.mk 7 [] [] 0 (gD.mk 0 [] []) x37 y38))
 | x43 :: xs, y38 => bnd (rec_l12Arm x43) fun x44 =>
gd (y38.length + [x44].length ≤ 4294967296) (
gDm rec_l12Arm x37 xs (y38 ++ [x44]))
def gM0 (rec_l12Arm : gB → Option (gJq)) (rec_l12Exprs : (List gB) → Option (List jO)) (rec_l12Expr : gB → Option (jO)) (a0 : gB) : Option (jO) :=
(cnd (!(a0.atom == [])) (
bnd (gJo a0.atom) fun x2 =>
(cnd x2.2 (
lt_ (gL2 x2.1) fun x4 =>
(some x4)) (
(cnd (a0.atom == [116, 114, 117, 101]) (
(some (jO.mk 2 [] [] 1 (gD.mk 0 [] []) [] []))) (
(cnd (a0.atom == [102, 97, 108, 115, 101]) (
(some (jO.mk 2 [] [] 0 (gD.mk 0 [] []) [] []))) (
lt_ (gL3 a0.atom) fun x7 =>
(some x7)))))))) (
gd (([] : List gB).length + a0.list.length ≤ 4294967296) (
gd (([] ++ a0.list).length + [(gB.mk [] []), (gB.mk [] []), (gB.mk [] [])].length ≤ 4294967296) (
bnd (at? (([] ++ a0.list) ++ [(gB.mk [] []), (gB.mk [] []), (gB.mk [] [])]) 1) fun x10 =>
bnd (at? (([] ++ a0.list) ++ [(gB.mk [] []), (gB.mk [] []), (gB.mk [] [])]) 0) fun x11 =>
(cnd (x11.atom == [99, 97, 108, 108]) (
gd (0 ≤ (pG 2 (a0.list.length : Int)) ∧ (pG 2 (a0.list.length : Int)) ≤ (a0.list.length : Int)) (
bnd (rec_l12Exprs (a0.list.drop (Int.toNat (pG 2 (a0.list.length : Int))))) fun x14 =>
(some (jO.mk 4 [] x10.atom 0 (gD.mk 0 [] []) x14 [])))) (
(cnd (x11.atom == [109, 101, 116, 104, 111, 100]) (
bnd (at? (([] ++ a0.list) ++ [(gB.mk [] []), (gB.mk [] []), (gB.mk [] [])]) 2) fun x16 =>
gd (0 ≤ (pG 3 (a0.list.length : Int)) ∧ (pG 3 (a0.list.length : Int)) ≤ (a0.list.length : Int)) (
bnd (rec_l12Exprs (a0.list.drop (Int.toNat (pG 3 (a0.list.length : Int))))) fun x18 =>
(some (jO.mk 5 x10.atom x16.atom 0 (gD.mk 0 [] []) x18 [])))) (
(cnd (x11.atom == [110, 101, 119]) (
gd (0 ≤ (pG 2 (a0.list.length : Int)) ∧ (pG 2 (a0.list.length : Int)) ≤ (a0.list.length : Int)) (
bnd (rec_l12Exprs (a0.list.drop (Int.toNat (pG 2 (a0.list.length : Int))))) fun x21 =>
(some (jO.mk 6 [] x10.atom 0 (gD.mk 0 [] []) x21 [])))) (
(cnd (x11.atom == [108, 101, 116]) (
gd (0 ≤ (pG 2 (a0.list.length : Int)) ∧ (pG 2 (a0.list.length : Int)) ≤ (a0.list.length : Int)) (
bnd (rec_l12Exprs (a0.list.drop (Int.toNat (pG 2 (a0.list.length : Int))))) fun x24 =>
(some (jO.mk 8 [] x10.atom 0 (gD.mk 0 [] []) x24 [])))) (
(cnd (x11.atom == [105, 102]) (
gd (0 ≤ (1 : Int) ∧ 1 ≤ (a0.list.length : Int)) (
bnd (rec_l12Exprs (a0.list.drop (Int.toNat 1))) fun x27 =>
(some (jO.mk 9 [] [] 0 (gD.mk 0 [] []) x27 [])))) (
(cnd (x11.atom == [112, 97, 99, 107]) (
gd (0 ≤ (pG 2 (a0.list.length : Int)) ∧ (pG 2 (a0.list.length : Int)) ≤ (a0.list.length : Int)) (
bnd (rec_l12Exprs (a0.list.drop (Int.toNat (pG 2 (a0.list.length : Int))))) fun x30 =>
(some (jO.mk 11 x10.atom [] 0 (gD.mk 0 [] []) x30 [])))) (
(cnd (x11.atom == [116, 104, 101]) (
bnd (gJa 5000 x10) fun x32 =>
gd (0 ≤ (pG 2 (a0.list.length : Int)) ∧ (pG 2 (a0.list.length : Int)) ≤ (a0.list.length : Int)) (
bnd (rec_l12Exprs (a0.list.drop (Int.toNat (pG 2 (a0.list.length : Int))))) fun x34 =>
(some (jO.mk 12 [] [] 0 x32 x34 [])))) (
(cnd (x11.atom == [99, 97, 115, 101]) (
gd (0 ≤ (1 : Int) ∧ (1 : Int) ≤ (pG 2 (a0.list.length : Int)) ∧ (pG 2 (a0.list.length : Int)) ≤ (a0.list.length : Int)) (
bnd (rec_l12Exprs ((a0.list.drop (Int.toNat 1)).take (Int.toNat (pG 2 (a0.list.length : Int)) - Int.toNat 1))) fun x37 =>
gDm rec_l12Arm x37 (a0.list.drop 2) [])) (
gd (0 ≤ (pG 1 (a0.list.length : Int)) ∧ (pG 1 (a0.list.length : Int)) ≤ (a0.list.length : Int)) (
bnd (rec_l12Exprs (a0.list.drop (Int.toNat (pG 1 (a0.list.length : Int))))) fun x47 =>
(some (jO.mk 10 [] x11.atom 0 (gD.mk 0 [] []) x47 [])))))))))))))))))))))))
theorem gW9 {rec_l12Arm : gB → Option (gJq)} {rec_l12Exprs : (List gB) → Option (List jO)} {rec_l12Expr : gB → Option (jO)} (hrec_l12Arm : ∀ (x0 : gB) {r : gJq}, rec_l12Arm x0 = some r → jB Tryz.prog 129 [.d (mD x0)] [gZ2 r]) (hrec_l12Exprs : ∀ (x0 : List gB) {r : List jO}, rec_l12Exprs x0 = some r → jB Tryz.prog 128 [.L 2 (gM x0)] [.sl 9 (kM r)]) (hrec_l12Expr : ∀ (x0 : gB) {r : jO}, rec_l12Expr x0 = some r → jB Tryz.prog 106 [.d (mD x0)] [yO r]) (a0 : gB) {r : jO} (h : gM0 rec_l12Arm rec_l12Exprs rec_l12Expr a0 = some r) : jB Tryz.prog 106 [.d (mD a0)] [yO r] := by
 obtain ⟨a0_0, a0_1⟩ := a0
 unfold gM0 at h
 refine SpI Tryz.func106 fun A _ => ?_
 refine goC h ?_ ?_<;>intro c1 h
 ·refine goL ?_
  obtain ⟨⟨x2_0, x2_1⟩, hx2, h⟩ := gK h
  refine jH (gF (gSx a0_0 hx2)) ?_
  refine kD (jC ?_)
  refine goC h ?_ ?_<;>intro c3 h
  ·refine goL ?_
   obtain ⟨⟨x4_0, x4_1, x4_2, x4_3, ⟨x4_4_0, x4_4_1, x4_4_2⟩, x4_5, x4_6⟩, hx4, h⟩ := qU h
   have sx4 := hAe x2_0
   rw [hx4] at sx4
   refine qQ (gF (sx4)) ?_
   exact goR h
  ·refine goC h ?_ ?_<;>intro c5 h
   ·refine goL ?_
    refine gBm (kE TBd.h TZ.h rfl (by repeat constructor)) ?_
    exact goR h
   ·refine goC h ?_ ?_<;>intro c6 h
    ·refine goL ?_
     refine gBm (kE TBd.h TZ.h rfl (by repeat constructor)) ?_
     exact goR h
    ·refine goS ?_
     obtain ⟨⟨x7_0, x7_1, x7_2, x7_3, ⟨x7_4_0, x7_4_1, x7_4_2⟩, x7_5, x7_6⟩, hx7, h⟩ := qU h
     have sx7 := hAf a0_0
     rw [hx7] at sx7
     refine qQ (gF (sx7)) ?_
     exact goR h
 ·refine goS ?_
  refine gAc ?_
  refine goL ?_
  obtain ⟨g8, h⟩ := pF h
  refine gBu g8 ?_
  refine gBm (kE TBd.h TZ.h rfl (by repeat constructor)) ?_
  refine gBm (kE TBd.h TZ.h rfl (by repeat constructor)) ?_
  refine gBm (kE TBd.h TZ.h rfl (by repeat constructor)) ?_
  refine gNn (us := gM [(gB.mk [] []), (gB.mk [] []), (gB.mk [] [])]) ?_
  obtain ⟨g9, h⟩ := pF h
  refine gBu g9 ?_
  refine goL ?_
  refine vL 2 rfl rfl ?_
  refine gYq ?_
  obtain ⟨x10, hx10, h⟩ := gK h
  obtain ⟨hx100, hx10⟩ := gD9 hx10
  obtain ⟨x10_0, x10_1⟩ := x10
  refine jH (qV hx100 (qO hx10)) ?_
  obtain ⟨x11, hx11, h⟩ := gK h
  obtain ⟨hx110, hx11⟩ := gD9 hx11
  obtain ⟨x11_0, x11_1⟩ := x11
  refine jH (qV hx110 (qO hx11)) ?_
  refine jC ?_
  refine goC h ?_ ?_<;>intro c12 h
  ·refine jL (P := Tryz.prog) Mix.h [(0, true), (1, true), (2, true), (3, true), (4, true), (5, true), (6, true), (7, true), (8, false)] (by kernel_rfl) ?_
   refine goY ?_
   refine jD rfl (gF (gG0 2 (a0_1.length : Int))) ?_
   obtain ⟨g13, h⟩ := pF h
   refine jD rfl (gJe g13) ?_
   obtain ⟨x14, hx14, h⟩ := gK h
   refine jD rfl (gF (hrec_l12Exprs (a0_1.drop (Int.toNat (pG 2 (a0_1.length : Int)))) hx14)) ?_
   refine goY ?_
   refine kP ?_
   exact goR h
  ·refine goC h ?_ ?_<;>intro c15 h
   ·refine jL (P := Tryz.prog) Mix.h [(0, true), (1, true), (2, true), (3, true), (4, true), (5, true), (6, true), (7, true), (8, true), (9, true), (10, true), (11, true), (12, false)] (by kernel_rfl) ?_
    refine goY ?_
    obtain ⟨x16, hx16, h⟩ := gK h
    obtain ⟨hx160, hx16⟩ := gD9 hx16
    obtain ⟨x16_0, x16_1⟩ := x16
    refine jD rfl (qV hx160 (qO hx16)) ?_
    refine goY ?_
    refine jD rfl (gF (gG0 3 (a0_1.length : Int))) ?_
    obtain ⟨g17, h⟩ := pF h
    refine jD rfl (gJe g17) ?_
    obtain ⟨x18, hx18, h⟩ := gK h
    refine jD rfl (gF (hrec_l12Exprs (a0_1.drop (Int.toNat (pG 3 (a0_1.length : Int)))) hx18)) ?_
    refine goY ?_
    refine kP ?_
    exact goR h
   ·refine goC h ?_ ?_<;>intro c19 h
    ·refine jL (P := Tryz.prog) Mix.h [(0, true), (1, true), (2, true), (3, true), (4, true), (5, true), (6, true), (7, true), (8, false)] (by kernel_rfl) ?_
     refine goY ?_
     refine jD rfl (gF (gG0 2 (a0_1.length : Int))) ?_
     obtain ⟨g20, h⟩ := pF h
     refine jD rfl (gJe g20) ?_
     obtain ⟨x21, hx21, h⟩ := gK h
     refine jD rfl (gF (hrec_l12Exprs (a0_1.drop (Int.toNat (pG 2 (a0_1.length : Int)))) hx21)) ?_
     refine goY ?_
     refine kP ?_
     exact goR h
    ·refine goC h ?_ ?_<;>intro c22 h
     ·refine jL (P := Tryz.prog) Mix.h [(0, true), (1, true), (2, true), (3, true), (4, true), (5, true), (6, true), (7, true), (8, false)] (by kernel_rfl) ?_
      refine goY ?_
      refine jD rfl (gF (gG0 2 (a0_1.length : Int))) ?_
      obtain ⟨g23, h⟩ := pF h
      refine jD rfl (gJe g23) ?_
      obtain ⟨x24, hx24, h⟩ := gK h
      refine jD rfl (gF (hrec_l12Exprs (a0_1.drop (Int.toNat (pG 2 (a0_1.length : Int)))) hx24)) ?_
      refine goY ?_
      refine kP ?_
      exact goR h
     ·refine goC h ?_ ?_<;>intro c25 h
      ·refine goL ?_
       obtain ⟨g26, h⟩ := pF h
       refine qQ (gJe g26) ?_
       obtain ⟨x27, hx27, h⟩ := gK h
       refine qQ (gF (hrec_l12Exprs (a0_1.drop (Int.toNat 1)) hx27)) ?_
       refine gBm (kE TBd.h TZ.h rfl (by repeat constructor)) ?_
       exact goR h
      ·refine goC h ?_ ?_<;>intro c28 h
       ·refine jL (P := Tryz.prog) Mix.h [(0, true), (1, true), (2, true), (3, true), (4, true), (5, true), (6, true), (7, true), (8, false)] (by kernel_rfl) ?_
        refine goY ?_
        refine jD rfl (gF (gG0 2 (a0_1.length : Int))) ?_
        obtain ⟨g29, h⟩ := pF h
        refine jD rfl (gJe g29) ?_
        obtain ⟨x30, hx30, h⟩ := gK h
        refine jD rfl (gF (hrec_l12Exprs (a0_1.drop (Int.toNat (pG 2 (a0_1.length : Int)))) hx30)) ?_
        refine goY ?_
        refine kP ?_
        exact goR h
       ·refine goC h ?_ ?_<;>intro c31 h
        ·refine jL (P := Tryz.prog) Mix.h [(0, true), (1, true), (2, true), (3, true), (4, true), (5, true), (6, true), (7, true), (8, true), (9, true), (10, true), (11, false)] (by kernel_rfl) ?_
         refine goY ?_
         refine jD rfl (qV hx100 (qO hx10)) ?_
         refine goY ?_
         obtain ⟨⟨x32_0, x32_1, x32_2⟩, hx32, h⟩ := gK h
         refine jD rfl (gF (gLm 5000 (gB.mk x10_0 x10_1) hx32)) ?_
         refine goY ?_
         refine jD rfl (gF (gG0 2 (a0_1.length : Int))) ?_
         obtain ⟨g33, h⟩ := pF h
         refine jD rfl (gJe g33) ?_
         obtain ⟨x34, hx34, h⟩ := gK h
         refine jD rfl (gF (hrec_l12Exprs (a0_1.drop (Int.toNat (pG 2 (a0_1.length : Int)))) hx34)) ?_
         refine goY ?_
         refine kP ?_
         exact goR h
        ·refine goC h ?_ ?_<;>intro c35 h
         ·refine jL (P := Tryz.prog) Mix.h [(0, true), (1, true), (2, true), (3, true), (4, true), (5, true), (6, true), (7, false), (8, false)] (by kernel_rfl) ?_
          refine goY ?_
          refine jD rfl (gF (gG0 2 (a0_1.length : Int))) ?_
          obtain ⟨g36, h⟩ := pF h
          refine jD rfl (hDm g36) ?_
          obtain ⟨x37, hx37, h⟩ := gK h
          refine jD rfl (gF (hrec_l12Exprs ((a0_1.drop (Int.toNat 1)).take (Int.toNat (pG 2 (a0_1.length : Int)) - Int.toNat 1)) hx37)) ?_
          refine goY ?_
          refine kP ?_
          refine goL ?_
          refine noB ?_
          refine yF 212 11 4 8 rfl rfl (by repeat constructor) (by repeat constructor) (by repeat constructor) (by repeat constructor) ?_
          show V _ _ _ _ _
          refine gEk 38 (fun z41 => ?_)
          refine kQ (fun (y40 : Nat) (y38 : List gJq) (v39 : Nat) => ⟨[(1, .ptr 0 0), (2, .ptr 1 0), (6, .I (a0_1.length : Int)), (8, .ptr 4 0), (9, .N y40)], [.box [.S a0_0, .L 2 (gM a0_1)], .box [.I 0, .S [], .S [], .I 0, .I 0, .S [], .nilsl, .nilsl, .nilsl], .frz 113 2 ((0 + 1) + 1) (gM (([] ++ a0_1) ++ [(gB.mk [] []), (gB.mk [] []), (gB.mk [] [])])), .arr 113 2 0 (gM [(gB.mk [] []), (gB.mk [] []), (gB.mk [] [])]), .box [.I 7, .S [], .S [], .I 0, .I 0, .S [], .nilsl, .L 9 (kM x37), .sl 5 v39], .arr 212 11 v39 (qD y38)], Tryz.f106.ntmps⟩) (fun y40 y38 v39 => gDm rec_l12Arm x37 (a0_1.drop y40) y38 = some r) (fun y40 y38 v39 => a0_1.length - y40) 2 [] 0 eJ h ?_
          rintro y40 y38 v39 h
          refine goL ?_
          refine mF (fun c42 => ?_) (fun c42 => ?_)
          ·have hky402 := vO c42
           obtain ⟨x43, hx43, hdx43⟩ := drop_at hky402
           rw [hdx43, gDm.eq_2] at h
           obtain ⟨x43_0, x43_1⟩ := x43
           refine noS ?_
           refine kD (jC ?_)
           refine vH (P := Tryz.prog) Mix.h [(0, true), (1, true), (2, true), (3, true), (4, true), (5, true), (6, true), (7, true), (8, false), (9, false), (10, true), (11, false)] (by kernel_rfl) ?_
           refine goY ?_
           refine jD rfl (jJ y40 (qO hx43)) ?_
           refine goY ?_
           obtain ⟨⟨x44_0, x44_1, ⟨x44_2_0, x44_2_1, x44_2_2, x44_2_3, ⟨x44_2_4_0, x44_2_4_1, x44_2_4_2⟩, x44_2_5, x44_2_6⟩⟩, hx44, h⟩ := gK h
           refine jD rfl (gF (hrec_l12Arm (gB.mk x43_0 x43_1) hx44)) ?_
           refine pY (T := 154) (us := qD [(gJq.mk x44_0 x44_1 (jO.mk x44_2_0 x44_2_1 x44_2_2 x44_2_3 (gD.mk x44_2_4_0 x44_2_4_1 x44_2_4_2) x44_2_5 x44_2_6))]) ?_
           obtain ⟨g45, h⟩ := pF h
           refine pV (T := 154) g45 ?_
           refine goY ?_
           refine kP ?_
           refine goL ?_
           refine jH (jT y40 (by omega)) ?_
           exact ⟨(y40 + 1), (y38 ++ [(gJq.mk x44_0 x44_1 (jO.mk x44_2_0 x44_2_1 x44_2_2 x44_2_3 (gD.mk x44_2_4_0 x44_2_4_1 x44_2_4_2) x44_2_5 x44_2_6))]), (v39 + 1), h, by omega, eJ⟩
          ·have hky402 := vP c42
           rw [jE hky402, gDm.eq_1] at h
           refine goX ?_
           refine kI 5 rfl rfl ?_
           refine jN ?_
           cases h
           exact qH
         ·refine noS ?_
          refine jL (P := Tryz.prog) Mix.h [(0, true), (1, true), (2, true), (3, true), (4, true), (5, true), (6, true), (7, true), (8, true), (9, true), (10, true), (11, false)] (by kernel_rfl) ?_
          refine goY ?_
          refine jD rfl (qV hx110 (qO hx11)) ?_
          refine goY ?_
          refine jD rfl (gF (gG0 1 (a0_1.length : Int))) ?_
          obtain ⟨g46, h⟩ := pF h
          refine jD rfl (gJe g46) ?_
          obtain ⟨x47, hx47, h⟩ := gK h
          refine jD rfl (gF (hrec_l12Exprs (a0_1.drop (Int.toNat (pG 1 (a0_1.length : Int)))) hx47)) ?_
          refine goY ?_
          refine kP ?_
          exact goR h
mutual
def gL5 : Nat → gB → Option (gJq)
 | 0, _ => none
 | n + 1, x0 => gPq (gL5 n) (gIu n) (gDn n) x0
def gIu : Nat → (List gB) → Option (List jO)
 | 0, _ => none
 | n + 1, x0 => gK7 (gL5 n) (gIu n) (gDn n) x0
def gDn : Nat → gB → Option (jO)
 | 0, _ => none
 | n + 1, x0 => gM0 (gL5 n) (gIu n) (gDn n) x0
end
theorem gXa : ∀ (n : Nat), (∀ (x0 : gB) {r : gJq}, gL5 n x0 = some r → jB Tryz.prog 129 [.d (mD x0)] [gZ2 r]) ∧ (∀ (x0 : List gB) {r : List jO}, gIu n x0 = some r → jB Tryz.prog 128 [.L 2 (gM x0)] [.sl 9 (kM r)]) ∧ (∀ (x0 : gB) {r : jO}, gDn n x0 = some r → jB Tryz.prog 106 [.d (mD x0)] [yO r]) := by
 intro n
 induction n with
 | zero => exact ⟨(by intro x0 r h; cases h), (by intro x0 r h; cases h), (by intro x0 r h; cases h)⟩
 | succ n ih =>
   obtain ⟨ih0, ih1, ih2⟩ := ih
   refine ⟨(fun x0 r h => hAo ih0 ih1 ih2 x0 h), (fun x0 r h => gVy ih0 ih1 ih2 x0 h), (fun x0 r h => gW9 ih0 ih1 ih2 x0 h)⟩
theorem gM1 : ∀ (n : Nat) (x0 : gB) {r : jO}, gDn n x0 = some r → jB Tryz.prog 106 [.d (mD x0)] [yO r] := fun n => (gXa n).2.2
def gDo : List (List UInt8) → Bool
 | [] => true
 | x4 :: xs => (cnd (!(kV x4)) (
false) (
gDo xs ))
def gH9 (a0 : List (List UInt8)) : Bool :=
gDo a0
theorem gQ8 (a0 : List (List UInt8)) : jB Tryz.prog 115 [.L 1 (gY a0)] [.b (gH9 a0)] := by
 obtain ⟨r, h⟩ : ∃ r, gH9 a0 = r := ⟨_, rfl⟩
 rw [h]
 unfold gH9 at h
 refine SpI Tryz.func115 fun A _ => ?_
 refine goL ?_
 refine noB ?_
 refine gEk 0 (fun z2 => ?_)
 refine mY (fun (y1 : Nat) => ⟨[(0, .L 1 (gY a0)), (3, .N y1)], [], Tryz.f115.ntmps⟩) (fun y1 => gDo (a0.drop y1)  = r) (fun y1 => a0.length - y1) 0 eJ h ?_
 rintro y1 h
 refine goL ?_
 refine mF (fun c3 => ?_) (fun c3 => ?_)
 ·have hky12 := vO c3
  obtain ⟨x4, hx4, hdx4⟩ := drop_at hky12
  rw [hdx4, gDo.eq_2] at h
  refine noS ?_
  refine kD (jC ?_)
  refine goL ?_
  refine jH (jJ y1 (gOl hx4)) ?_
  refine jH (gF (pI x4)) ?_
  refine mF (fun c5 => ?_) (fun c5 => ?_)
  ·replace h := gW c5 h
   refine goL ?_
   refine jN ?_
   subst h
   exact qH
  ·replace h := gX c5 h
   refine goS ?_
   refine jH (jT y1 (by omega)) ?_
   exact ⟨(y1 + 1), h, by omega, eJ⟩
 ·have hky12 := vP c3
  rw [jE hky12, gDo.eq_1] at h
  refine goX ?_
  refine jN ?_
  subst h
  exact qH
def gE6 (rec_l4Form : gD → Option (Bool)) : List gD → Bool → Option (Bool)
 | [], y6 => (some y6)
 | x10 :: xs, y6 => bnd ((cnd y6 (bnd (rec_l4Form x10) fun x13 =>
(some x13)) ((some false)))) fun b11 =>
gE6 rec_l4Form xs b11
def gE7 (rec_l4Form : gD → Option (Bool)) : List gD → Bool → Option (Bool)
 | [], y17 => (some y17)
 | x21 :: xs, y17 => bnd ((cnd y17 (bnd (rec_l4Form x21) fun x24 =>
(some x24)) ((some false)))) fun b22 =>
gE7 rec_l4Form xs b22
def gE8 (rec_l4Form : gD → Option (Bool)) : List gD → Bool → Option (Bool)
 | [], y31 => (some y31)
 | x35 :: xs, y31 => bnd ((cnd y31 (bnd (rec_l4Form x35) fun x38 =>
(some x38)) ((some false)))) fun b36 =>
gE8 rec_l4Form xs b36
def gPr (rec_l4Form : gD → Option (Bool)) (a0 : gD) : Option (Bool) :=
bnd ((cnd (a0.kind == 1) (
(some (a0.kind == 1))) (
(some (a0.kind == 4))))) fun b1 =>
(cnd b1 (
lt_ ((cnd (kV a0.name) (((a0.args.length : Int) == 0)) (false))) fun b4 =>
gE6 rec_l4Form a0.args b4) (
(cnd (a0.kind == 3) (
lt_ ((cnd (kV a0.name) (((a0.args.length : Int) == 1)) (false))) fun b15 =>
gE7 rec_l4Form a0.args b15) (
(cnd (a0.kind == 2) (
lt_ ((cnd (kV a0.name) ((cnd (decide ((a0.args.length : Int) ≤ 3)) (true) ((cnd (gJ8 a0.name) (((a0.args.length : Int) == 0)) (false))))) ((cnd (gJ8 a0.name) (((a0.args.length : Int) == 0)) (false))))) fun b26 =>
gE8 rec_l4Form a0.args b26) (
(some false)))))))
theorem hAp {rec_l4Form : gD → Option (Bool)} (hrec_l4Form : ∀ (x0 : gD) {r : Bool}, rec_l4Form x0 = some r → jB Tryz.prog 174 [.d (jQ x0)] [.b r]) (a0 : gD) {r : Bool} (h : gPr rec_l4Form a0 = some r) : jB Tryz.prog 174 [.d (jQ a0)] [.b r] := by
 obtain ⟨a0_0, a0_1, a0_2⟩ := a0
 unfold gPr at h
 refine SpI Tryz.func174 fun A _ => ?_
 refine goL ?_
 refine jH (gF (pI a0_1)) ?_
 refine jC ?_
 refine goL ?_
 obtain ⟨b1, hb1, h⟩ := gK h
 refine gD8 ⟨[(1, .ptr 0 0), (3, .B (kV a0_1)), (9, .I a0_0), (10, .B b1)], [.box [.I a0_0, .S a0_1, .L 3 (gJ a0_2)]], Tryz.f174.ntmps⟩ ?_ ?_
 ·refine mF (fun c2 => ?_) (fun c2 => ?_)
  ·replace hb1 := gW c2 hb1
   refine gA6 ?_
   cases hb1
   exact eJ
  ·replace hb1 := gX c2 hb1
   refine goL ?_
   cases hb1
   exact eJ
 refine goC h ?_ ?_<;>intro c3 h
 ·refine goL ?_
  obtain ⟨b4, hb4, h⟩ := qU h
  refine jU ⟨[(1, .ptr 0 0), (3, .B b4)], [.box [.I a0_0, .S a0_1, .L 3 (gJ a0_2)]], Tryz.f174.ntmps⟩ ?_ ?_
  ·refine gQ 14 (fun c5 => ?_) (fun c5 => ?_) (by first | rfl | (simp only [jM, gZ]; rfl))
   ·replace hb4 := gW c5 hb4
    refine goL ?_
    cases hb4
    exact ⟨rfl, ⟨⟨rfl, rfl⟩, ⟨by first | rfl | (simp only [jM, gZ]; rfl), rfl⟩, trivial⟩, ⟨_, rfl⟩, rfl⟩
   ·replace hb4 := gX c5 hb4
    refine goL ?_
    cases hb4
    exact ⟨rfl, ⟨⟨rfl, rfl⟩, ⟨by first | rfl | (simp only [jM, gZ]; rfl), rfl⟩, trivial⟩, ⟨_, rfl⟩, rfl⟩
  refine goL ?_
  refine noB ?_
  refine vJ 0 2 (fun z8 => ?_)
  refine gCx (fun (y7 : Nat) (y6 : Bool) => ⟨[(1, .ptr 0 0), (3, .B y6), (4, .N y7)], [.box [.I a0_0, .S a0_1, .L 3 (gJ a0_2)]], Tryz.f174.ntmps⟩) (fun y7 y6 => gE6 rec_l4Form (a0_2.drop y7) y6 = some r) (fun y7 y6 => a0_2.length - y7) 0 b4 eJ h ?_
  rintro y7 y6 h
  refine goL ?_
  refine mF (fun c9 => ?_) (fun c9 => ?_)
  ·have hky72 := vO c9
   obtain ⟨x10, hx10, hdx10⟩ := drop_at hky72
   rw [hdx10, gE6.eq_2] at h
   obtain ⟨x10_0, x10_1, x10_2⟩ := x10
   refine noS ?_
   refine kD (jC ?_)
   refine goL ?_
   obtain ⟨b11, hb11, h⟩ := gK h
   refine jU ⟨[(1, .ptr 0 0), (4, .N y7), (3, .B b11)], [.box [.I a0_0, .S a0_1, .L 3 (gJ a0_2)]], Tryz.f174.ntmps⟩ ?_ ?_
   ·refine gQ 57 (fun c12 => ?_) (fun c12 => ?_)
    ·replace hb11 := gW c12 hb11
     refine goL ?_
     refine uB ?_
     refine jH (jJ y7 (gA5 hx10)) ?_
     refine uB ?_
     obtain ⟨x13, hx13, hb11⟩ := gK hb11
     refine jH (gF (hrec_l4Form (gD.mk x10_0 x10_1 x10_2) hx13)) ?_
     cases hb11
     exact eJ
    ·replace hb11 := gX c12 hb11
     refine goL ?_
     cases hb11
     exact eJ
   refine goL ?_
   refine jH (jT y7 (by omega)) ?_
   exact ⟨(y7 + 1), b11, h, by omega, eJ⟩
  ·have hky72 := vP c9
   rw [jE hky72, gE6.eq_1] at h
   refine goX ?_
   refine jN ?_
   cases h
   exact qH
 ·refine goC h ?_ ?_<;>intro c14 h
  ·refine goL ?_
   obtain ⟨b15, hb15, h⟩ := qU h
   refine jU ⟨[(1, .ptr 0 0), (3, .B b15)], [.box [.I a0_0, .S a0_1, .L 3 (gJ a0_2)]], Tryz.f174.ntmps⟩ ?_ ?_
   ·refine gQ 23 (fun c16 => ?_) (fun c16 => ?_) (by first | rfl | (simp only [jM, gZ]; rfl))
    ·replace hb15 := gW c16 hb15
     refine goL ?_
     cases hb15
     exact ⟨rfl, ⟨⟨rfl, rfl⟩, ⟨by first | rfl | (simp only [jM, gZ]; rfl), rfl⟩, trivial⟩, ⟨_, rfl⟩, rfl⟩
    ·replace hb15 := gX c16 hb15
     refine goL ?_
     cases hb15
     exact ⟨rfl, ⟨⟨rfl, rfl⟩, ⟨by first | rfl | (simp only [jM, gZ]; rfl), rfl⟩, trivial⟩, ⟨_, rfl⟩, rfl⟩
   refine goL ?_
   refine noB ?_
   refine vJ 0 2 (fun z19 => ?_)
   refine gCx (fun (y18 : Nat) (y17 : Bool) => ⟨[(1, .ptr 0 0), (3, .B y17), (4, .N y18)], [.box [.I a0_0, .S a0_1, .L 3 (gJ a0_2)]], Tryz.f174.ntmps⟩) (fun y18 y17 => gE7 rec_l4Form (a0_2.drop y18) y17 = some r) (fun y18 y17 => a0_2.length - y18) 0 b15 eJ h ?_
   rintro y18 y17 h
   refine goL ?_
   refine mF (fun c20 => ?_) (fun c20 => ?_)
   ·have hky182 := vO c20
    obtain ⟨x21, hx21, hdx21⟩ := drop_at hky182
    rw [hdx21, gE7.eq_2] at h
    obtain ⟨x21_0, x21_1, x21_2⟩ := x21
    refine noS ?_
    refine kD (jC ?_)
    refine goL ?_
    obtain ⟨b22, hb22, h⟩ := gK h
    refine jU ⟨[(1, .ptr 0 0), (4, .N y18), (3, .B b22)], [.box [.I a0_0, .S a0_1, .L 3 (gJ a0_2)]], Tryz.f174.ntmps⟩ ?_ ?_
    ·refine gQ 57 (fun c23 => ?_) (fun c23 => ?_)
     ·replace hb22 := gW c23 hb22
      refine goL ?_
      refine uB ?_
      refine jH (jJ y18 (gA5 hx21)) ?_
      refine uB ?_
      obtain ⟨x24, hx24, hb22⟩ := gK hb22
      refine jH (gF (hrec_l4Form (gD.mk x21_0 x21_1 x21_2) hx24)) ?_
      cases hb22
      exact eJ
     ·replace hb22 := gX c23 hb22
      refine goL ?_
      cases hb22
      exact eJ
    refine goL ?_
    refine jH (jT y18 (by omega)) ?_
    exact ⟨(y18 + 1), b22, h, by omega, eJ⟩
   ·have hky182 := vP c20
    rw [jE hky182, gE7.eq_1] at h
    refine goX ?_
    refine jN ?_
    cases h
    exact qH
  ·refine goC h ?_ ?_<;>intro c25 h
   ·refine goL ?_
    obtain ⟨b26, hb26, h⟩ := qU h
    refine jU ⟨[(1, .ptr 0 0), (3, .B b26)], [.box [.I a0_0, .S a0_1, .L 3 (gJ a0_2)]], Tryz.f174.ntmps⟩ ?_ ?_
    ·refine gQ 32 (fun c27 => ?_) (fun c27 => ?_) (by first | rfl | (simp only [jM, gZ]; rfl))
     ·replace hb26 := gW c27 hb26
      refine goL ?_
      refine gQ 38 (fun c28 => ?_) (fun c28 => ?_) (by first | rfl | (simp only [jM, gZ]; rfl))
      ·replace hb26 := gW c28 hb26
       refine goL ?_
       cases hb26
       exact ⟨rfl, ⟨⟨rfl, rfl⟩, ⟨by first | rfl | (simp only [jM, gZ]; rfl), rfl⟩, trivial⟩, ⟨_, rfl⟩, rfl⟩
      ·replace hb26 := gX c28 hb26
       refine goL ?_
       refine uB ?_
       refine jH (gF (gT2 a0_1)) ?_
       refine gQ 42 (fun c29 => ?_) (fun c29 => ?_) (by first | rfl | (simp only [jM, gZ]; rfl))
       ·replace hb26 := gW c29 hb26
        refine goL ?_
        cases hb26
        exact ⟨rfl, ⟨⟨rfl, rfl⟩, ⟨by first | rfl | (simp only [jM, gZ]; rfl), rfl⟩, trivial⟩, ⟨_, rfl⟩, rfl⟩
       ·replace hb26 := gX c29 hb26
        refine goL ?_
        cases hb26
        exact ⟨rfl, ⟨⟨rfl, rfl⟩, ⟨by first | rfl | (simp only [jM, gZ]; rfl), rfl⟩, trivial⟩, ⟨_, rfl⟩, rfl⟩
     ·replace hb26 := gX c27 hb26
      refine goL ?_
      refine uB ?_
      refine jH (gF (gT2 a0_1)) ?_
      refine gQ 42 (fun c30 => ?_) (fun c30 => ?_) (by first | rfl | (simp only [jM, gZ]; rfl))
      ·replace hb26 := gW c30 hb26
       refine goL ?_
       cases hb26
       exact ⟨rfl, ⟨⟨rfl, rfl⟩, ⟨by first | rfl | (simp only [jM, gZ]; rfl), rfl⟩, trivial⟩, ⟨_, rfl⟩, rfl⟩
      ·replace hb26 := gX c30 hb26
       refine goL ?_
       cases hb26
       exact ⟨rfl, ⟨⟨rfl, rfl⟩, ⟨by first | rfl | (simp only [jM, gZ]; rfl), rfl⟩, trivial⟩, ⟨_, rfl⟩, rfl⟩
    refine goL ?_
    refine noB ?_
    refine vJ 0 2 (fun z33 => ?_)
    refine gCx (fun (y32 : Nat) (y31 : Bool) => ⟨[(1, .ptr 0 0), (3, .B y31), (4, .N y32)], [.box [.I a0_0, .S a0_1, .L 3 (gJ a0_2)]], Tryz.f174.ntmps⟩) (fun y32 y31 => gE8 rec_l4Form (a0_2.drop y32) y31 = some r) (fun y32 y31 => a0_2.length - y32) 0 b26 eJ h ?_
    rintro y32 y31 h
    refine goL ?_
    refine mF (fun c34 => ?_) (fun c34 => ?_)
    ·have hky322 := vO c34
     obtain ⟨x35, hx35, hdx35⟩ := drop_at hky322
     rw [hdx35, gE8.eq_2] at h
     obtain ⟨x35_0, x35_1, x35_2⟩ := x35
     refine noS ?_
     refine kD (jC ?_)
     refine goL ?_
     obtain ⟨b36, hb36, h⟩ := gK h
     refine jU ⟨[(1, .ptr 0 0), (4, .N y32), (3, .B b36)], [.box [.I a0_0, .S a0_1, .L 3 (gJ a0_2)]], Tryz.f174.ntmps⟩ ?_ ?_
     ·refine gQ 57 (fun c37 => ?_) (fun c37 => ?_)
      ·replace hb36 := gW c37 hb36
       refine goL ?_
       refine uB ?_
       refine jH (jJ y32 (gA5 hx35)) ?_
       refine uB ?_
       obtain ⟨x38, hx38, hb36⟩ := gK hb36
       refine jH (gF (hrec_l4Form (gD.mk x35_0 x35_1 x35_2) hx38)) ?_
       cases hb36
       exact eJ
      ·replace hb36 := gX c37 hb36
       refine goL ?_
       cases hb36
       exact eJ
     refine goL ?_
     refine jH (jT y32 (by omega)) ?_
     exact ⟨(y32 + 1), b36, h, by omega, eJ⟩
    ·have hky322 := vP c34
     rw [jE hky322, gE8.eq_1] at h
     refine goX ?_
     refine jN ?_
     cases h
     exact qH
   ·exact goR h
def gPs : Nat → gD → Option (Bool)
 | 0, _ => none
 | n + 1, x0 => gPr (gPs n) x0
theorem hAq : ∀ (n : Nat) (x0 : gD) {r : Bool}, gPs n x0 = some r → jB Tryz.prog 174 [.d (jQ x0)] [.b r] := by
 intro n
 induction n with
 | zero => intro x0 r h; cases h
 | succ n ih => intro x0 r h; exact hAp ih x0 h
def gM2 (a0 : jO) : Option (Bool) :=
bnd (gH5 5000 a0 (jO.mk 0 [] [] 0 (gD.mk 0 [] []) [] [])) fun x1 =>
(some x1)
theorem gXb (a0 : jO) {r : Bool} (h : gM2 a0 = some r) : jB Tryz.prog 156 [.d (yO a0)] [.b r] := by
 obtain ⟨a0_0, a0_1, a0_2, a0_3, ⟨a0_4_0, a0_4_1, a0_4_2⟩, a0_5, a0_6⟩ := a0
 unfold gM2 at h
 refine SpI Tryz.func156 fun A _ => ?_
 refine goL ?_
 refine gBm (kE TBd.h TZ.h rfl (by repeat constructor)) ?_
 obtain ⟨x1, hx1, h⟩ := gK h
 refine qQ (gF (gQ6 5000 (jO.mk a0_0 a0_1 a0_2 a0_3 (gD.mk a0_4_0 a0_4_1 a0_4_2) a0_5 a0_6) (jO.mk 0 [] [] 0 (gD.mk 0 [] []) [] []) hx1)) ?_
 exact goR h
end Go.Proofs.YtfaplndgbgoaaaaGreat
