import Derived.Test.YtfaplndgbgoaaaaGreatEng38
import Derived.Test.YtfaplndgbgoaaaaGreatEng67
import Derived.Test.YtfaplndgbgoaaaaGreatB2
set_option maxHeartbeats 4000000
set_option linter.unusedVariables false
set_option linter.unusedSimpArgs false
set_option linter.unusedSectionVars false
namespace Go.Proofs.YtfaplndgbgoaaaaGreat
open Go Go.Eng
attribute [local irreducible] V VO VQ VY Quiet QR jB kR Rng uX vB qY
def gDj (rec_l11Free : jO → (List (List UInt8)) → (List (List UInt8)) → Option (List (List UInt8))) (bound : List (List UInt8)) : List gJq → (List (List UInt8)) → Option (List (List UInt8))
 | [], y25 => (some y25)
 | x30 :: xs, y25 => gd (([] : List (List UInt8)).length + bound.length ≤ 4294967296) (
gd (([] ++ bound).length + x30.vars.length ≤ 4294967296) (
bnd (rec_l11Free x30.body (([] ++ bound) ++ x30.vars) y25) fun x33 =>
gDj rec_l11Free bound xs x33))
def gDk (rec_l11Free : jO → (List (List UInt8)) → (List (List UInt8)) → Option (List (List UInt8))) (e : jO) (bound : List (List UInt8)) : List jO → Nat → (List (List UInt8)) → Option (List (List UInt8))
 | [], y10, y8 => gDj rec_l11Free bound e.arms y8
 | x13 :: xs, y10, y8 => bnd (lt_ ((cnd (e.kind == 8) (((y10 : Int) == 1)) (false))) fun b16 =>
(cnd b16 (
gd (([] : List (List UInt8)).length + bound.length ≤ 4294967296) (
gd (([] ++ bound).length + [e.name].length ≤ 4294967296) (
bnd (rec_l11Free x13 (([] ++ bound) ++ [e.name]) y8) fun x21 =>
(some x21)))) (
bnd (rec_l11Free x13 bound y8) fun x23 =>
(some x23)))) fun b14 =>
gDk rec_l11Free e bound xs (y10 + 1) b14
def gMt (rec_l11Free : jO → (List (List UInt8)) → (List (List UInt8)) → Option (List (List UInt8))) (e : jO) (bound : List (List UInt8)) (l0 : List (List UInt8)) : Option (List (List UInt8)) :=
lt_ ((cnd (e.kind == 3) ((cnd (!(vN bound e.name)) ((!(vN l0 e.name))) (false))) (false))) fun b1 =>
bnd ((cnd b1 (
gd (l0.length + [e.name].length ≤ 4294967296) (
(some (l0 ++ [e.name])))) (
(some l0)))) fun b4 =>
gDk rec_l11Free e bound e.args 0 b4
theorem gW0 {rec_l11Free : jO → (List (List UInt8)) → (List (List UInt8)) → Option (List (List UInt8))} (hrec_l11Free : ∀ (x0 : jO) (x1 : List (List UInt8)) (x2 : List (List UInt8)) (w0 : Nat) {r : List (List UInt8)}, rec_l11Free x0 x1 x2 = some r → Go.Eng.Spec Tryz.prog 175 [.d (yO x0), .L 1 (gY x1), .sl 0 w0] [.own 9 1 w0 (gY x2)] (fun sv Lo => ∃ v'0, sv = .sl 0 v'0 ∧ Lo = [.own 9 1 v'0 (gY r)])) (e : jO) (bound : List (List UInt8)) (l0 : List (List UInt8)) (v0 : Nat) {r : List (List UInt8)} (h : gMt rec_l11Free e bound l0 = some r) : Go.Eng.Spec Tryz.prog 175 [.d (yO e), .L 1 (gY bound), .sl 0 v0] [.own 9 1 v0 (gY l0)] (fun sv Lo => ∃ v'0, sv = .sl 0 v'0 ∧ Lo = [.own 9 1 v'0 (gY r)]) := by
 obtain ⟨e_0, e_1, e_2, e_3, ⟨e_4_0, e_4_1, e_4_2⟩, e_5, e_6⟩ := e
 unfold gMt at h
 refine kY 1 Tryz.func175 rfl (by kernel_rfl) rfl rfl fun A _ => ?_
 refine goL ?_
 obtain ⟨b1, hb1, h⟩ := qU h
 refine jU ⟨[(1, .L 1 (gY bound)), (2, .sl 0 v0), (3, .ptr 1 0), (26, .B b1)], [.own 9 1 v0 (gY l0), .box [.I e_0, .S e_1, .S e_2, .I e_3, .I e_4_0, .S e_4_1, .L 3 (gJ e_4_2), .L 9 (kM e_5), .L 11 (qD e_6)]], Tryz.f175.ntmps⟩ ?_ ?_
 ·refine gQ 13 (fun c2 => ?_) (fun c2 => ?_)
  ·replace hb1 := gW c2 hb1
   refine goL ?_
   refine uB ?_
   refine jH (gF (gD1 bound e_2)) ?_
   refine gQ 20 (fun c3 => ?_) (fun c3 => ?_)
   ·replace hb1 := gW c3 hb1
    refine goL ?_
    refine uB ?_
    refine gFj (gSm (gD1 l0 e_2)) ?_
    cases hb1
    exact eJ
   ·replace hb1 := gX c3 hb1
    refine goL ?_
    cases hb1
    exact eJ
  ·replace hb1 := gX c2 hb1
   refine goL ?_
   cases hb1
   exact eJ
 refine goL ?_
 obtain ⟨b4, hb4, h⟩ := gK h
 refine gLa (fun v5 => ⟨[(1, .L 1 (gY bound)), (2, .sl 0 v5), (3, .ptr 1 0)], [.own 9 1 v5 (gY b4), .box [.I e_0, .S e_1, .S e_2, .I e_3, .I e_4_0, .S e_4_1, .L 3 (gJ e_4_2), .L 9 (kM e_5), .L 11 (qD e_6)]], Tryz.f175.ntmps⟩) ?_ (fun v5 => ?_)
 ·refine mF (fun c6 => ?_) (fun c6 => ?_)
  ·replace hb4 := gW c6 hb4
   refine goL ?_
   refine gA7 e_2 ?_
   obtain ⟨g7, hb4⟩ := pF hb4
   refine gGo g7 ?_
   refine goL ?_
   cases hb4
   exact ⟨(v0 + 1), eJ⟩
  ·replace hb4 := gX c6 hb4
   refine gA6 ?_
   cases hb4
   exact ⟨v0, eJ⟩
 refine goL ?_
 refine noB ?_
 refine vJ 1 7 (fun z11 => ?_)
 refine kQ (fun (y10 : Nat) (y8 : List (List UInt8)) (v9 : Nat) => ⟨[(1, .L 1 (gY bound)), (2, .sl 0 v9), (3, .ptr 1 0), (7, .N y10)], [.own 9 1 v9 (gY y8), .box [.I e_0, .S e_1, .S e_2, .I e_3, .I e_4_0, .S e_4_1, .L 3 (gJ e_4_2), .L 9 (kM e_5), .L 11 (qD e_6)]], Tryz.f175.ntmps⟩) (fun y10 y8 v9 => gDk rec_l11Free (jO.mk e_0 e_1 e_2 e_3 (gD.mk e_4_0 e_4_1 e_4_2) e_5 e_6) bound (e_5.drop y10) y10 y8 = some r) (fun y10 y8 v9 => e_5.length - y10) 0 b4 v5 eJ h ?_
 rintro y10 y8 v9 h
 refine goL ?_
 refine mF (fun c12 => ?_) (fun c12 => ?_)
 ·have hky102 := vO c12
  obtain ⟨x13, hx13, hdx13⟩ := drop_at hky102
  rw [hdx13, gDk.eq_2] at h
  obtain ⟨x13_0, x13_1, x13_2, x13_3, ⟨x13_4_0, x13_4_1, x13_4_2⟩, x13_5, x13_6⟩ := x13
  refine noS ?_
  refine kD ?_
  obtain ⟨b14, hb14, h⟩ := gK h
  refine gLa (fun v15 => ⟨[(1, .L 1 (gY bound)), (2, .sl 0 v15), (3, .ptr 1 0), (7, .N y10)], [.own 9 1 v15 (gY b14), .box [.I e_0, .S e_1, .S e_2, .I e_3, .I e_4_0, .S e_4_1, .L 3 (gJ e_4_2), .L 9 (kM e_5), .L 11 (qD e_6)]], Tryz.f175.ntmps⟩) ?_ (fun v15 => ?_)
  ·refine jC ?_
   refine goL ?_
   obtain ⟨b16, hb16, hb14⟩ := qU hb14
   refine jU ⟨[(1, .L 1 (gY bound)), (2, .sl 0 v9), (3, .ptr 1 0), (7, .N y10), (8, .L 1 (gY bound)), (46, .B b16)], [.own 9 1 v9 (gY y8), .box [.I e_0, .S e_1, .S e_2, .I e_3, .I e_4_0, .S e_4_1, .L 3 (gJ e_4_2), .L 9 (kM e_5), .L 11 (qD e_6)]], Tryz.f175.ntmps⟩ ?_ ?_
   ·refine gQ 43 (fun c17 => ?_) (fun c17 => ?_)
    ·replace hb16 := gW c17 hb16
     refine goL ?_
     cases hb16
     exact eJ
    ·replace hb16 := gX c17 hb16
     refine goL ?_
     cases hb16
     exact eJ
   refine goL ?_
   refine mF (fun c18 => ?_) (fun c18 => ?_)
   ·replace hb14 := gW c18 hb14
    obtain ⟨g19, hb14⟩ := pF hb14
    obtain ⟨g20, hb14⟩ := pF hb14
    refine gP9 (P := Tryz.prog) Mix.h (.q 1 (.q 3 (.q 4 (.h 0 (.h 2 (.h 5 (.h 6 (.q 7 .nil) .nil) .nil) (.h 5 (.h 2 (.h 6 (.q 7 .nil) .nil) .nil) .nil)) (.h 5 (.h 0 (.h 2 (.h 6 (.q 7 .nil) .nil) .nil) .nil) .nil))))) ⟨[(1, .L 1 (gY bound)), (2, .sl 0 v9), (3, .ptr 1 0), (7, .N y10), (8, .sl 2 ((0 + 1) + 1))], [.own 9 1 v9 (gY y8), .box [.I e_0, .S e_1, .S e_2, .I e_3, .I e_4_0, .S e_4_1, .L 3 (gJ e_4_2), .L 9 (kM e_5), .L 11 (qD e_6)], .own 9 1 ((0 + 1) + 1) (gY (([] ++ bound) ++ [e_2])), .dead 1], Tryz.f175.ntmps⟩ (by kernel_rfl) ?_ ?_
    ·refine goT ?_
     refine wO (hEy jS) ?_ ?_
     ·refine wO (gP8 (T := 53) g19 jS) ?_ ?_
      ·refine jR (gRm (T := 53) (e_2 : List UInt8) jS) ?_
       refine jR (gP8 (T := 53) g20 jS) ?_
       refine goT ?_
       refine jX ?_
       exact vC 1 [0, 1, 2, 3]
      refine jR (gRm (T := 53) (e_2 : List UInt8) jS) ?_
      refine jR (gP8 (T := 53) g19 jS) ?_
      refine jR (gP8 (T := 53) g20 jS) ?_
      refine goT ?_
      refine jX ?_
      exact vC 1 [0, 1, 2, 3]
     refine jR (gRm (T := 53) (e_2 : List UInt8) jS) ?_
     refine jR (hEy jS) ?_
     refine jR (gP8 (T := 53) g19 jS) ?_
     refine jR (gP8 (T := 53) g20 jS) ?_
     refine goT ?_
     refine jX ?_
     exact vC 1 [0, 1, 3, 2]
    refine goL ?_
    refine jH (jJ y10 (gS5 hx13)) ?_
    refine gIw 2 rfl rfl ?_
    obtain ⟨x21, hx21, hb14⟩ := gK hb14
    refine gGc [0] (hrec_l11Free (jO.mk x13_0 x13_1 x13_2 x13_3 (gD.mk x13_4_0 x13_4_1 x13_4_2) x13_5 x13_6) (([] ++ bound) ++ [e_2]) y8 v9 hx21) ?_
    rintro _ _ ⟨v22, rfl, rfl⟩
    show VO _ _ _ _ ⟨(_, .sl 0 v22) :: _, [.own 9 1 v22 (gY x21), .box [.I e_0, .S e_1, .S e_2, .I e_3, .I e_4_0, .S e_4_1, .L 3 (gJ e_4_2), .L 9 (kM e_5), .L 11 (qD e_6)], .frz 9 1 ((0 + 1) + 1) (gY (([] ++ bound) ++ [e_2])), .dead 1], _⟩ _
    refine goL ?_
    cases hb14
    exact ⟨v22, eJ⟩
   ·replace hb14 := gX c18 hb14
    refine goS ?_
    refine jH (jJ y10 (gS5 hx13)) ?_
    obtain ⟨x23, hx23, hb14⟩ := gK hb14
    refine gGc [0] (hrec_l11Free (jO.mk x13_0 x13_1 x13_2 x13_3 (gD.mk x13_4_0 x13_4_1 x13_4_2) x13_5 x13_6) bound y8 v9 hx23) ?_
    rintro _ _ ⟨v24, rfl, rfl⟩
    show VO _ _ _ _ ⟨(_, .sl 0 v24) :: _, [.own 9 1 v24 (gY x23), .box [.I e_0, .S e_1, .S e_2, .I e_3, .I e_4_0, .S e_4_1, .L 3 (gJ e_4_2), .L 9 (kM e_5), .L 11 (qD e_6)]], _⟩ _
    refine goL ?_
    cases hb14
    exact ⟨v24, eJ⟩
  refine goL ?_
  refine jH (jT y10 (by omega)) ?_
  exact ⟨(y10 + 1), b14, v15, h, by omega, eJ⟩
 ·have hky102 := vP c12
  rw [jE hky102, gDk.eq_1] at h
  refine goX ?_
  refine noB ?_
  refine vJ 1 8 (fun z28 => ?_)
  refine kQ (fun (y27 : Nat) (y25 : List (List UInt8)) (v26 : Nat) => ⟨[(1, .L 1 (gY bound)), (2, .sl 0 v26), (3, .ptr 1 0), (9, .N y27)], [.own 9 1 v26 (gY y25), .box [.I e_0, .S e_1, .S e_2, .I e_3, .I e_4_0, .S e_4_1, .L 3 (gJ e_4_2), .L 9 (kM e_5), .L 11 (qD e_6)]], Tryz.f175.ntmps⟩) (fun y27 y25 v26 => gDj rec_l11Free bound (e_6.drop y27) y25 = some r) (fun y27 y25 v26 => e_6.length - y27) 0 y8 v9 eJ h ?_
  rintro y27 y25 v26 h
  refine goL ?_
  refine mF (fun c29 => ?_) (fun c29 => ?_)
  ·have hky272 := vO c29
   obtain ⟨x30, hx30, hdx30⟩ := drop_at hky272
   rw [hdx30, gDj.eq_2] at h
   obtain ⟨x30_0, x30_1, ⟨x30_2_0, x30_2_1, x30_2_2, x30_2_3, ⟨x30_2_4_0, x30_2_4_1, x30_2_4_2⟩, x30_2_5, x30_2_6⟩⟩ := x30
   refine noS ?_
   refine kD (jC ?_)
   refine vH (P := Tryz.prog) Mix.h [(0, true), (1, true), (2, true), (3, true), (4, true), (5, true), (7, true), (9, true), (10, true), (11, true), (12, true), (13, true), (14, true), (16, true), (6, false), (8, false), (15, false), (17, false), (18, true)] (by kernel_rfl) ?_
   refine goY ?_
   refine jD rfl (jJ y27 (gX5 hx30)) ?_
   refine goY ?_
   refine jD rfl (jJ y27 (gX5 hx30)) ?_
   refine goY ?_
   refine hEy ?_
   obtain ⟨g31, h⟩ := pF h
   refine gP8 (T := 53) g31 ?_
   obtain ⟨g32, h⟩ := pF h
   refine gP8 (T := 53) g32 ?_
   refine gYk 2 rfl rfl ?_
   obtain ⟨x33, hx33, h⟩ := gK h
   refine gYp [0] (hrec_l11Free (jO.mk x30_2_0 x30_2_1 x30_2_2 x30_2_3 (gD.mk x30_2_4_0 x30_2_4_1 x30_2_4_2) x30_2_5 x30_2_6) (([] ++ bound) ++ x30_1) y25 v26 hx33) ?_
   rintro _ _ ⟨v34, rfl, rfl⟩
   refine gUp (sv := .sl 0 v34) (L' := [.own 9 1 v34 (gY x33), .box [.I e_0, .S e_1, .S e_2, .I e_3, .I e_4_0, .S e_4_1, .L 3 (gJ e_4_2), .L 9 (kM e_5), .L 11 (qD e_6)], .frz 9 1 ((0 + 1) + 1) (gY (([] ++ bound) ++ x30_1))]) (by repeat (first | exact zL.nil | (apply zL.keep; focus ((repeat constructor); done)) | (apply zL.dep; focus kernel_rfl))) ?_
   refine goY ?_
   refine kP ?_
   refine goL ?_
   refine jH (jT y27 (by omega)) ?_
   exact ⟨(y27 + 1), x33, v34, h, by omega, eJ⟩
  ·have hky272 := vP c29
   rw [jE hky272, gDj.eq_1] at h
   refine goX ?_
   refine jN ?_
   obtain rfl := Option.some.inj h
   exact gEl [.sl 0 v26] [.own 9 1 v26 (gY y25)] ⟨v26, rfl, rfl⟩
def gMu : Nat → jO → (List (List UInt8)) → (List (List UInt8)) → Option (List (List UInt8))
 | 0, _, _, _ => none
 | n + 1, x0, x1, x2 => gMt (gMu n) x0 x1 x2
theorem gW1 : ∀ (n : Nat) (x0 : jO) (x1 : List (List UInt8)) (x2 : List (List UInt8)) (w0 : Nat) {r : List (List UInt8)}, gMu n x0 x1 x2 = some r → Go.Eng.Spec Tryz.prog 175 [.d (yO x0), .L 1 (gY x1), .sl 0 w0] [.own 9 1 w0 (gY x2)] (fun sv Lo => ∃ v'0, sv = .sl 0 v'0 ∧ Lo = [.own 9 1 v'0 (gY r)]) := by
 intro n
 induction n with
 | zero => intro x0 x1 x2 w0 r h; cases h
 | succ n ih => intro x0 x1 x2 w0 r h; exact gW0 ih x0 x1 x2 w0 h
def gFx (rec_l11Left : jO → Int → Option (Int)) (a0 : jO) : Nat → Int → Int → Option (Int)
 | 0, y9, y10 => none
 | n11 + 1, y9, y10 => lt_ ((cnd (decide (y10 < (a0.arms.length : Int))) ((decide (y9 ≥ 0))) (false))) fun b12 =>
(cnd b12 (
bnd (at? a0.arms y10) fun x15 =>
bnd (rec_l11Left x15.body y9) fun x16 =>
gFx rec_l11Left a0 n11 x16 (IntKind.i64.wrap (y10 + 1))) (
(some y9)))
def gFy (rec_l11Left : jO → Int → Option (Int)) (a0 : jO) (n0 : Nat) : Nat → Int → Int → Option (Int)
 | 0, y1, y2 => none
 | n3 + 1, y1, y2 => lt_ ((cnd (decide (y2 < (a0.args.length : Int))) ((decide (y1 ≥ 0))) (false))) fun b4 =>
(cnd b4 (
bnd (at? a0.args y2) fun x7 =>
bnd (rec_l11Left x7 y1) fun x8 =>
gFy rec_l11Left a0 n0 n3 x8 (IntKind.i64.wrap (y2 + 1))) (
gFx rec_l11Left a0 n0 y1 0))
def gMv (rec_l11Left : jO → Int → Option (Int)) (a0 : jO) (a1 : Int) (n0 : Nat) : Option (Int) :=
gFy rec_l11Left a0 n0 n0 (IntKind.i64.wrap (a1 - 1)) 0
theorem gW2 {rec_l11Left : jO → Int → Option (Int)} (hrec_l11Left : ∀ (x0 : jO) (x1 : Int) {r : Int}, rec_l11Left x0 x1 = some r → jB Tryz.prog 176 [.d (yO x0), .I x1] [.i .i64 r]) (a0 : jO) (a1 : Int) {n0 : Nat} {r : Int} (h : gMv rec_l11Left a0 a1 n0 = some r) : jB Tryz.prog 176 [.d (yO a0), .I a1] [.i .i64 r] := by
 obtain ⟨a0_0, a0_1, a0_2, a0_3, ⟨a0_4_0, a0_4_1, a0_4_2⟩, a0_5, a0_6⟩ := a0
 unfold gMv at h
 refine SpI Tryz.func176 fun A _ => ?_
 refine goL ?_
 refine jH (qG) ?_
 refine noB ?_
 refine kQ (fun (n3 : Nat) (y1 : Int) (y2 : Int) => ⟨[(1, .I y1), (2, .ptr 0 0), (5, .I y2)], [.box [.I a0_0, .S a0_1, .S a0_2, .I a0_3, .I a0_4_0, .S a0_4_1, .L 3 (gJ a0_4_2), .L 9 (kM a0_5), .L 11 (qD a0_6)]], Tryz.f176.ntmps⟩) (fun n3 y1 y2 => gFy rec_l11Left (jO.mk a0_0 a0_1 a0_2 a0_3 (gD.mk a0_4_0 a0_4_1 a0_4_2) a0_5 a0_6) n0 n3 y1 y2 = some r) (fun n3 y1 y2 => n3) n0 (IntKind.i64.wrap (a1 - 1)) 0 eJ h ?_
 rintro n3 y1 y2 h
 rcases n3 with _ | n3
 ·cases h
 rw [gFy.eq_2] at h
 refine goL ?_
 obtain ⟨b4, hb4, h⟩ := qU h
 refine jU ⟨[(1, .I y1), (2, .ptr 0 0), (5, .I y2), (17, .B b4)], [.box [.I a0_0, .S a0_1, .S a0_2, .I a0_3, .I a0_4_0, .S a0_4_1, .L 3 (gJ a0_4_2), .L 9 (kM a0_5), .L 11 (qD a0_6)]], Tryz.f176.ntmps⟩ ?_ ?_
 ·refine gQ 14 (fun c5 => ?_) (fun c5 => ?_)
  ·replace hb4 := gW c5 hb4
   refine goL ?_
   cases hb4
   exact eJ
  ·replace hb4 := gX c5 hb4
   refine goL ?_
   cases hb4
   exact eJ
 refine goC h ?_ ?_<;>intro c6 h
 ·refine noS ?_
  refine kD (jC ?_)
  refine goL ?_
  obtain ⟨x7, hx7, h⟩ := gK h
  obtain ⟨hx70, hx7⟩ := gD9 hx7
  obtain ⟨x7_0, x7_1, x7_2, x7_3, ⟨x7_4_0, x7_4_1, x7_4_2⟩, x7_5, x7_6⟩ := x7
  refine jH (qV hx70 (gS5 hx7)) ?_
  obtain ⟨x8, hx8, h⟩ := gK h
  refine jH (gF (hrec_l11Left (jO.mk x7_0 x7_1 x7_2 x7_3 (gD.mk x7_4_0 x7_4_1 x7_4_2) x7_5 x7_6) y1 hx8)) ?_
  refine jH (qG) ?_
  exact ⟨n3, x8, (IntKind.i64.wrap (y2 + 1)), h, Nat.lt_succ_self _, eJ⟩
 ·refine goX ?_
  refine noB ?_
  refine kQ (fun (n11 : Nat) (y9 : Int) (y10 : Int) => ⟨[(1, .I y9), (2, .ptr 0 0), (6, .I y10)], [.box [.I a0_0, .S a0_1, .S a0_2, .I a0_3, .I a0_4_0, .S a0_4_1, .L 3 (gJ a0_4_2), .L 9 (kM a0_5), .L 11 (qD a0_6)]], Tryz.f176.ntmps⟩) (fun n11 y9 y10 => gFx rec_l11Left (jO.mk a0_0 a0_1 a0_2 a0_3 (gD.mk a0_4_0 a0_4_1 a0_4_2) a0_5 a0_6) n11 y9 y10 = some r) (fun n11 y9 y10 => n11) n0 y1 0 eJ h ?_
  rintro n11 y9 y10 h
  rcases n11 with _ | n11
  ·cases h
  rw [gFx.eq_2] at h
  refine goL ?_
  obtain ⟨b12, hb12, h⟩ := qU h
  refine jU ⟨[(1, .I y9), (2, .ptr 0 0), (6, .I y10), (35, .B b12)], [.box [.I a0_0, .S a0_1, .S a0_2, .I a0_3, .I a0_4_0, .S a0_4_1, .L 3 (gJ a0_4_2), .L 9 (kM a0_5), .L 11 (qD a0_6)]], Tryz.f176.ntmps⟩ ?_ ?_
  ·refine gQ 32 (fun c13 => ?_) (fun c13 => ?_)
   ·replace hb12 := gW c13 hb12
    refine goL ?_
    cases hb12
    exact eJ
   ·replace hb12 := gX c13 hb12
    refine goL ?_
    cases hb12
    exact eJ
  refine goC h ?_ ?_<;>intro c14 h
  ·refine noS ?_
   refine kD (jC ?_)
   refine goL ?_
   obtain ⟨x15, hx15, h⟩ := gK h
   obtain ⟨hx150, hx15⟩ := gD9 hx15
   obtain ⟨x15_0, x15_1, ⟨x15_2_0, x15_2_1, x15_2_2, x15_2_3, ⟨x15_2_4_0, x15_2_4_1, x15_2_4_2⟩, x15_2_5, x15_2_6⟩⟩ := x15
   refine jH (qV hx150 (gX5 hx15)) ?_
   obtain ⟨x16, hx16, h⟩ := gK h
   refine jH (gF (hrec_l11Left (jO.mk x15_2_0 x15_2_1 x15_2_2 x15_2_3 (gD.mk x15_2_4_0 x15_2_4_1 x15_2_4_2) x15_2_5 x15_2_6) y9 hx16)) ?_
   refine jH (qG) ?_
   exact ⟨n11, x16, (IntKind.i64.wrap (y10 + 1)), h, Nat.lt_succ_self _, eJ⟩
  ·refine goX ?_
   refine jN ?_
   cases h
   exact qH
def gMw : Nat → jO → Int → Option (Int)
 | 0, _, _ => none
 | n + 1, x0, x1 => gMv (gMw n) x0 x1 n
theorem gW3 : ∀ (n : Nat) (x0 : jO) (x1 : Int) {r : Int}, gMw n x0 x1 = some r → jB Tryz.prog 176 [.d (yO x0), .I x1] [.i .i64 r] := by
 intro n
 induction n with
 | zero => intro x0 x1 r h; cases h
 | succ n ih => intro x0 x1 r h; exact gW2 ih x0 x1 h
def yJ (a0 : gD) : Bool :=
lt_ ((cnd (a0.kind == 0) ((cnd (a0.name == []) (((a0.args.length : Int) == 0)) (false))) (false))) fun b1 =>
b1
theorem gBb (a0 : gD) : jB Tryz.prog 143 [.d (jQ a0)] [.b (yJ a0)] := by
 obtain ⟨r, h⟩ : ∃ r, yJ a0 = r := ⟨_, rfl⟩
 rw [h]
 obtain ⟨a0_0, a0_1, a0_2⟩ := a0
 unfold yJ at h
 refine SpI Tryz.func143 fun A _ => ?_
 refine goL ?_
 obtain ⟨b1, hb1, h⟩ := qU h
 refine jU ⟨[(2, .B b1)], [.box [.I a0_0, .S a0_1, .L 3 (gJ a0_2)]], Tryz.f143.ntmps⟩ ?_ ?_
 ·refine gQ 6 (fun c2 => ?_) (fun c2 => ?_) (by first | rfl | (simp only [jM, gZ]; rfl))
  ·replace hb1 := gW c2 hb1
   refine goL ?_
   refine gQ 11 (fun c3 => ?_) (fun c3 => ?_) (by first | rfl | (simp only [jM, gZ]; rfl))
   ·replace hb1 := gW c3 hb1
    refine goL ?_
    cases hb1
    exact ⟨rfl, ⟨⟨by first | rfl | (simp only [jM, gZ]; rfl), rfl⟩, trivial⟩, ⟨_, rfl⟩, rfl⟩
   ·replace hb1 := gX c3 hb1
    refine goL ?_
    cases hb1
    exact ⟨rfl, ⟨⟨by first | rfl | (simp only [jM, gZ]; rfl), rfl⟩, trivial⟩, ⟨_, rfl⟩, rfl⟩
  ·replace hb1 := gX c2 hb1
   refine goL ?_
   cases hb1
   exact ⟨rfl, ⟨⟨by first | rfl | (simp only [jM, gZ]; rfl), rfl⟩, trivial⟩, ⟨_, rfl⟩, rfl⟩
 refine goL ?_
 refine jN ?_
 subst h
 exact qH
def gEf (a0 : Int) : Bool × Bool × Bool × Bool × Int × Bool :=
(cnd (a0 == 1) (
(false, false, true, false, 0, false)) (
(cnd (a0 == 2) (
(false, false, true, false, 0, false)) (
(cnd (a0 == 3) (
(false, true, false, false, 0, false)) (
(cnd (a0 == 4) (
(false, true, false, false, (-1), false)) (
(cnd (a0 == 6) (
(false, true, false, false, (-1), false)) (
(cnd (a0 == 5) (
(true, true, false, false, (-1), false)) (
(cnd (a0 == 7) (
(false, false, false, false, 1, true)) (
(cnd (a0 == 8) (
(false, true, false, false, 2, false)) (
(cnd (a0 == 10) (
(false, true, false, false, 2, false)) (
(cnd (a0 == 9) (
(false, false, false, false, 3, false)) (
(cnd (a0 == 11) (
(true, false, false, false, 1, false)) (
(false, false, false, true, 1, false)))))))))))))))))))))))
theorem hAi (a0 : Int) : jB Tryz.prog 184 [.I a0] [.b (gEf a0).1, .b (gEf a0).2.1, .b (gEf a0).2.2.1, .b (gEf a0).2.2.2.1, .i .i64 (gEf a0).2.2.2.2.1, .b (gEf a0).2.2.2.2.2] := by
 obtain ⟨r, h⟩ : ∃ r, gEf a0 = r := ⟨_, rfl⟩
 rw [h]
 unfold gEf at h
 refine SpI Tryz.func184 fun A _ => ?_
 refine goL ?_
 refine jC ?_
 refine goC h ?_ ?_<;>intro c1 h
 ·refine noS ?_
  refine mF (fun c2 => ?_) (fun c2 => ?_)
  ·refine goL ?_
   refine jN ?_
   subst h
   exact qH
  ·exact absurd (c1.symm.trans c2) (by decide)
 ·refine goC h ?_ ?_<;>intro c3 h
  ·refine goL ?_
   refine jN ?_
   subst h
   exact qH
  ·refine goC h ?_ ?_<;>intro c4 h
   ·refine goL ?_
    refine jN ?_
    subst h
    exact qH
   ·refine goC h ?_ ?_<;>intro c5 h
    ·refine noS ?_
     refine mF (fun c6 => ?_) (fun c6 => ?_)
     ·refine goL ?_
      refine jN ?_
      subst h
      exact qH
     ·exact absurd (c5.symm.trans c6) (by decide)
    ·refine goC h ?_ ?_<;>intro c7 h
     ·refine goL ?_
      refine jN ?_
      subst h
      exact qH
     ·refine goC h ?_ ?_<;>intro c8 h
      ·refine goL ?_
       refine jN ?_
       subst h
       exact qH
      ·refine goC h ?_ ?_<;>intro c9 h
       ·refine goL ?_
        refine jN ?_
        subst h
        exact qH
       ·refine goC h ?_ ?_<;>intro c10 h
        ·refine noS ?_
         refine mF (fun c11 => ?_) (fun c11 => ?_)
         ·refine goL ?_
          refine jN ?_
          subst h
          exact qH
         ·exact absurd (c10.symm.trans c11) (by decide)
        ·refine goC h ?_ ?_<;>intro c12 h
         ·refine goL ?_
          refine jN ?_
          subst h
          exact qH
         ·refine goC h ?_ ?_<;>intro c13 h
          ·refine goL ?_
           refine jN ?_
           subst h
           exact qH
          ·refine goC h ?_ ?_<;>intro c14 h
           ·refine goL ?_
            refine jN ?_
            subst h
            exact qH
           ·refine goS ?_
            refine jN ?_
            subst h
            exact qH
def gJ9 (a0 : List UInt8) : Bool :=
(vN [[43], [45], [42], [60], [61]] a0)
theorem gW4 (a0 : List UInt8) : jB Tryz.prog 185 [.S a0] [.b (gJ9 a0)] := by
 obtain ⟨r, h⟩ : ∃ r, gJ9 a0 = r := ⟨_, rfl⟩
 rw [h]
 unfold gJ9 at h
 refine SpI Tryz.func185 fun A _ => ?_
 refine goL ?_
 refine gNn (us := gY [[43], [45], [42], [60], [61]]) ?_
 refine goL ?_
 refine gFj (gSm (gD1 [[43], [45], [42], [60], [61]] a0)) ?_
 refine jN ?_
 subst h
 exact qH
def gCf (a1 : List (List UInt8)) : List (List UInt8) → Nat → Option (Bool)
 | [], y2 => (some true)
 | x5 :: xs, y2 => bnd (at? a1 (y2 : Int)) fun x6 =>
(cnd (!(x5 == x6)) (
(some false)) (
gCf a1 xs (y2 + 1)))
def gK1 (a0 : List (List UInt8)) (a1 : List (List UInt8)) : Option (Bool) :=
(cnd ((a0.length : Int) != (a1.length : Int)) (
(some false)) (
gCf a1 a0 0))
theorem gVs (a0 : List (List UInt8)) (a1 : List (List UInt8)) {r : Bool} (h : gK1 a0 a1 = some r) : jB Tryz.prog 183 [.L 1 (gY a0), .L 1 (gY a1)] [.b r] := by
 unfold gK1 at h
 refine SpI Tryz.func183 fun A _ => ?_
 refine goC h ?_ ?_<;>intro c1 h
 ·exact goR h
 ·refine goS ?_
  refine noB ?_
  refine gEk 0 (fun z3 => ?_)
  refine mY (fun (y2 : Nat) => ⟨[(0, .L 1 (gY a0)), (1, .L 1 (gY a1)), (5, .N y2)], [], Tryz.f183.ntmps⟩) (fun y2 => gCf a1 (a0.drop y2) y2 = some r) (fun y2 => a0.length - y2) 0 eJ h ?_
  rintro y2 h
  refine goL ?_
  refine mF (fun c4 => ?_) (fun c4 => ?_)
  ·have hky22 := vO c4
   obtain ⟨x5, hx5, hdx5⟩ := drop_at hky22
   rw [hdx5, gCf.eq_2] at h
   refine noS ?_
   refine kD (jC ?_)
   refine goL ?_
   refine gCr (jJ y2 (gOl hx5)) ?_
   refine goL ?_
   obtain ⟨x6, hx6, h⟩ := gK h
   rw [gEa] at hx6
   refine gCr (jJ y2 (gOl hx6)) ?_
   refine goC h ?_ ?_<;>intro c7 h
   ·exact goR h
   ·refine goS ?_
    refine jH (jT y2 (by omega)) ?_
    exact ⟨(y2 + 1), h, by omega, eJ⟩
  ·have hky22 := vP c4
   rw [jE hky22, gCf.eq_1] at h
   refine goX ?_
   refine jN ?_
   cases h
   exact qH
def kU (a0 : List UInt8) : gB :=
(gB.mk a0 [])
theorem mE (a0 : List UInt8) : jB Tryz.prog 131 [.S a0] [mD (kU a0)] := by
 obtain ⟨r, h⟩ : ∃ r, kU a0 = r := ⟨_, rfl⟩
 rw [h]
 unfold kU at h
 refine SpI Tryz.func131 fun A _ => ?_
 refine goL ?_
 refine gFj (kE TBd.h TZ.h rfl (by repeat constructor)) ?_
 refine jN ?_
 subst h
 exact qH
def wF (rec_sHasProjection : gD → Option (Bool)) (a0 : gD) : List gD → Option (Bool)
 | [] => (some (a0.kind == 3))
 | x4 :: xs => bnd (rec_sHasProjection x4) fun x5 =>
(cnd x5 (
(some true)) (
wF rec_sHasProjection a0 xs ))
def gD3 (rec_sHasProjection : gD → Option (Bool)) (a0 : gD) : Option (Bool) :=
wF rec_sHasProjection a0 a0.args
theorem gLw {rec_sHasProjection : gD → Option (Bool)} (hrec_sHasProjection : ∀ (x0 : gD) {r : Bool}, rec_sHasProjection x0 = some r → jB Tryz.prog 141 [.d (jQ x0)] [.b r]) (a0 : gD) {r : Bool} (h : gD3 rec_sHasProjection a0 = some r) : jB Tryz.prog 141 [.d (jQ a0)] [.b r] := by
 obtain ⟨a0_0, a0_1, a0_2⟩ := a0
 unfold gD3 at h
 refine SpI Tryz.func141 fun A _ => ?_
 refine goL ?_
 refine noB ?_
 refine vJ 0 2 (fun z2 => ?_)
 refine mY (fun (y1 : Nat) => ⟨[(1, .ptr 0 0), (3, .N y1)], [.box [.I a0_0, .S a0_1, .L 3 (gJ a0_2)]], Tryz.f141.ntmps⟩) (fun y1 => wF rec_sHasProjection (gD.mk a0_0 a0_1 a0_2) (a0_2.drop y1)  = some r) (fun y1 => a0_2.length - y1) 0 eJ h ?_
 rintro y1 h
 refine goL ?_
 refine mF (fun c3 => ?_) (fun c3 => ?_)
 ·have hky12 := vO c3
  obtain ⟨x4, hx4, hdx4⟩ := drop_at hky12
  rw [hdx4, wF.eq_2] at h
  obtain ⟨x4_0, x4_1, x4_2⟩ := x4
  refine noS ?_
  refine kD (jC ?_)
  refine goL ?_
  refine jH (jJ y1 (gA5 hx4)) ?_
  obtain ⟨x5, hx5, h⟩ := gK h
  refine jH (gF (hrec_sHasProjection (gD.mk x4_0 x4_1 x4_2) hx5)) ?_
  refine mF (fun c6 => ?_) (fun c6 => ?_)
  ·replace h := gW c6 h
   exact goR h
  ·replace h := gX c6 h
   refine goS ?_
   refine jH (jT y1 (by omega)) ?_
   exact ⟨(y1 + 1), h, by omega, eJ⟩
 ·have hky12 := vP c3
  rw [jE hky12, wF.eq_1] at h
  refine goX ?_
  refine jN ?_
  cases h
  exact qH
def gBe : Nat → gD → Option (Bool)
 | 0, _ => none
 | n + 1, x0 => gD3 (gBe n) x0
theorem gHm : ∀ (n : Nat) (x0 : gD) {r : Bool}, gBe n x0 = some r → jB Tryz.prog 141 [.d (jQ x0)] [.b r] := by
 intro n
 induction n with
 | zero => intro x0 r h; cases h
 | succ n ih => intro x0 r h; exact gLw ih x0 h
def gCg (k3_0 : (List (List UInt8)) → Option (List (List UInt8) × List (List UInt8) × List (List UInt8) × List (List UInt8))) : List pK → (List (List UInt8)) → Option (List (List UInt8) × List (List UInt8) × List (List UInt8) × List (List UInt8))
 | [], y17 => (k3_0 y17)
 | x22 :: xs, y17 => gd (y17.length + [x22.name].length ≤ 4294967296) (
gCg k3_0 xs (y17 ++ [x22.name]))
def gCh (y1 : List (List UInt8)) (y8 : List (List UInt8)) (y10 : List (List UInt8)) : List kZ → (List (List UInt8)) → Option (List (List UInt8) × List (List UInt8) × List (List UInt8) × List (List UInt8))
 | [], y24 => (some (y1, y8, y10, y24))
 | x29 :: xs, y24 => gd (y24.length + [x29.name].length ≤ 4294967296) (
gCh y1 y8 y10 xs (y24 ++ [x29.name]))
def gAu (a0 : jY) (y1 : List (List UInt8)) : List kW → (List (List UInt8)) → (List (List UInt8)) → Option (List (List UInt8) × List (List UInt8) × List (List UInt8) × List (List UInt8))
 | [], y8, y10 => gCh y1 y8 y10 a0.functions []
 | x15 :: xs, y8, y10 => gd (y8.length + [x15.name].length ≤ 4294967296) (
gCg (fun y17 => gAu a0 y1 xs (y8 ++ [x15.name]) y17) x15.constructors y10)
def gCi (a0 : jY) : List qW → (List (List UInt8)) → Option (List (List UInt8) × List (List UInt8) × List (List UInt8) × List (List UInt8))
 | [], y1 => gAu a0 y1 a0.dataTypes [] []
 | x6 :: xs, y1 => gd (y1.length + [x6.name].length ≤ 4294967296) (
gCi a0 xs (y1 ++ [x6.name]))
def gK2 (a0 : jY) : Option (List (List UInt8) × List (List UInt8) × List (List UInt8) × List (List UInt8)) :=
gCi a0 a0.traits []
theorem gVt (a0 : jY) {r : List (List UInt8) × List (List UInt8) × List (List UInt8) × List (List UInt8)} (h : gK2 a0 = some r) : jB Tryz.prog 91 [.d (gC9 a0)] [.sl 1 (gY r.1), .sl 1 (gY r.2.1), .sl 1 (gY r.2.2.1), .sl 1 (gY r.2.2.2)] := by
 obtain ⟨a0_0, a0_1, a0_2, a0_3, a0_4, a0_5⟩ := a0
 unfold gK2 at h
 refine SpI Tryz.func91 fun A _ => ?_
 refine goL ?_
 refine gFh ?_
 refine goL ?_
 refine gFh ?_
 refine goL ?_
 refine gFh ?_
 refine goL ?_
 refine gFh ?_
 refine goL ?_
 refine noB ?_
 refine vJ 0 2 (fun z4 => ?_)
 refine kQ (fun (y3 : Nat) (y1 : List (List UInt8)) (v2 : Nat) => ⟨[(1, .ptr 0 0), (6, .sl 1 v2), (7, .sl 2 0), (8, .sl 3 0), (9, .sl 4 0), (10, .N y3)], [.box [.S a0_0, .L 1 (gY a0_1), .L 5 (uC a0_2), .L 3 (mG a0_3), .L 12 (mH a0_4), .L 16 (mI a0_5)], .own 9 1 v2 (gY y1), .own 9 1 0 [], .own 9 1 0 [], .own 9 1 0 []], Tryz.f91.ntmps⟩) (fun y3 y1 v2 => gCi (jY.mk a0_0 a0_1 a0_2 a0_3 a0_4 a0_5) (a0_2.drop y3) y1 = some r) (fun y3 y1 v2 => a0_2.length - y3) 0 [] 0 eJ h ?_
 rintro y3 y1 v2 h
 refine goL ?_
 refine mF (fun c5 => ?_) (fun c5 => ?_)
 ·have hky32 := vO c5
  obtain ⟨x6, hx6, hdx6⟩ := drop_at hky32
  rw [hdx6, gCi.eq_2] at h
  obtain ⟨x6_0, x6_1, x6_2, x6_3, x6_4⟩ := x6
  refine noS ?_
  refine kD (jC ?_)
  refine goL ?_
  refine jH (jJ y3 (gUg hx6)) ?_
  refine gA7 x6_0 ?_
  obtain ⟨g7, h⟩ := pF h
  refine gGo g7 ?_
  refine goL ?_
  refine jH (jT y3 (by omega)) ?_
  exact ⟨(y3 + 1), (y1 ++ [x6_0]), (v2 + 1), h, by omega, eJ⟩
 ·have hky32 := vP c5
  rw [jE hky32, gCi.eq_1] at h
  refine goX ?_
  refine noB ?_
  refine vJ 0 3 (fun z13 => ?_)
  refine gS7 (fun (y12 : Nat) (y8 : List (List UInt8)) (y10 : List (List UInt8)) (v9 : Nat) (v11 : Nat) => ⟨[(1, .ptr 0 0), (6, .sl 1 v2), (7, .sl 2 v9), (8, .sl 3 v11), (9, .sl 4 0), (11, .N y12)], [.box [.S a0_0, .L 1 (gY a0_1), .L 5 (uC a0_2), .L 3 (mG a0_3), .L 12 (mH a0_4), .L 16 (mI a0_5)], .own 9 1 v2 (gY y1), .own 9 1 v9 (gY y8), .own 9 1 v11 (gY y10), .own 9 1 0 []], Tryz.f91.ntmps⟩) (fun y12 y8 y10 v9 v11 => gAu (jY.mk a0_0 a0_1 a0_2 a0_3 a0_4 a0_5) y1 (a0_3.drop y12) y8 y10 = some r) (fun y12 y8 y10 v9 v11 => a0_3.length - y12) 0 [] [] 0 0 eJ h ?_
  rintro y12 y8 y10 v9 v11 h
  refine goL ?_
  refine mF (fun c14 => ?_) (fun c14 => ?_)
  ·have hky122 := vO c14
   obtain ⟨x15, hx15, hdx15⟩ := drop_at hky122
   rw [hdx15, gAu.eq_2] at h
   obtain ⟨x15_0, x15_1, x15_2⟩ := x15
   refine noS ?_
   refine kD (jC ?_)
   refine goL ?_
   refine jH (jJ y12 (gKi hx15)) ?_
   refine gA7 x15_0 ?_
   obtain ⟨g16, h⟩ := pF h
   refine gGo g16 ?_
   refine goL ?_
   refine noB ?_
   refine kQ (fun (y19 : Nat) (y17 : List (List UInt8)) (v18 : Nat) => ⟨[(1, .ptr 0 0), (6, .sl 1 v2), (7, .sl 2 (v9 + 1)), (8, .sl 3 v18), (9, .sl 4 0), (11, .N y12), (12, .N y19)], [.box [.S a0_0, .L 1 (gY a0_1), .L 5 (uC a0_2), .L 3 (mG a0_3), .L 12 (mH a0_4), .L 16 (mI a0_5)], .own 9 1 v2 (gY y1), .own 9 1 (v9 + 1) (gY (y8 ++ [x15_0])), .own 9 1 v18 (gY y17), .own 9 1 0 [], .dead 1], Tryz.f91.ntmps⟩) (fun y19 y17 v18 => gCg (fun y17 => gAu (jY.mk a0_0 a0_1 a0_2 a0_3 a0_4 a0_5) y1 (a0_3.drop (y12 + 1)) (y8 ++ [(kW.mk x15_0 x15_1 x15_2).name]) y17) (x15_2.drop y19) y17 = some r) (fun y19 y17 v18 => x15_2.length - y19) 0 y10 v11 eJ h ?_
   rintro y19 y17 v18 h
   refine goL ?_
   refine jH (jJ y12 (gKi hx15)) ?_
   refine mF (fun c20 => ?_) (fun c20 => ?_)
   ·have hky192 := vO c20
    refine gEk 56 (fun z21 => ?_)
    obtain ⟨x22, hx22, hdx22⟩ := drop_at hky192
    rw [hdx22, gCg.eq_2] at h
    obtain ⟨x22_0, x22_1⟩ := x22
    refine noS ?_
    refine kD (jC ?_)
    refine goL ?_
    refine jH (jJ y12 (gKi hx15)) ?_
    refine jH (jJ y19 (gBt hx22)) ?_
    refine gA7 x22_0 ?_
    obtain ⟨g23, h⟩ := pF h
    refine gGo g23 ?_
    refine goL ?_
    refine jH (jT y19 (by omega)) ?_
    exact ⟨(y19 + 1), (y17 ++ [x22_0]), (v18 + 1), h, by omega, eJ⟩
   ·have hky192 := vP c20
    rw [jE hky192, gCg.eq_1] at h
    refine goX ?_
    refine jH (jT y12 (by omega)) ?_
    exact ⟨(y12 + 1), (y8 ++ [x15_0]), y17, (v9 + 1), v18, h, by omega, eJ⟩
  ·have hky122 := vP c14
   rw [jE hky122, gAu.eq_1] at h
   refine goX ?_
   refine noB ?_
   refine vJ 0 5 (fun z27 => ?_)
   refine kQ (fun (y26 : Nat) (y24 : List (List UInt8)) (v25 : Nat) => ⟨[(1, .ptr 0 0), (6, .sl 1 v2), (7, .sl 2 v9), (8, .sl 3 v11), (9, .sl 4 v25), (13, .N y26)], [.box [.S a0_0, .L 1 (gY a0_1), .L 5 (uC a0_2), .L 3 (mG a0_3), .L 12 (mH a0_4), .L 16 (mI a0_5)], .own 9 1 v2 (gY y1), .own 9 1 v9 (gY y8), .own 9 1 v11 (gY y10), .own 9 1 v25 (gY y24)], Tryz.f91.ntmps⟩) (fun y26 y24 v25 => gCh y1 y8 y10 (a0_5.drop y26) y24 = some r) (fun y26 y24 v25 => a0_5.length - y26) 0 [] 0 eJ h ?_
   rintro y26 y24 v25 h
   refine goL ?_
   refine mF (fun c28 => ?_) (fun c28 => ?_)
   ·have hky262 := vO c28
    obtain ⟨x29, hx29, hdx29⟩ := drop_at hky262
    rw [hdx29, gCh.eq_2] at h
    obtain ⟨x29_0, x29_1, x29_2, x29_3, ⟨x29_4_0, x29_4_1, x29_4_2⟩, ⟨x29_5_0, x29_5_1, x29_5_2, x29_5_3, ⟨x29_5_4_0, x29_5_4_1, x29_5_4_2⟩, x29_5_5, x29_5_6⟩⟩ := x29
    refine noS ?_
    refine kD (jC ?_)
    refine goL ?_
    refine jH (jJ y26 (gRh hx29)) ?_
    refine gA7 x29_0 ?_
    obtain ⟨g30, h⟩ := pF h
    refine gGo g30 ?_
    refine goL ?_
    refine jH (jT y26 (by omega)) ?_
    exact ⟨(y26 + 1), (y24 ++ [x29_0]), (v25 + 1), h, by omega, eJ⟩
   ·have hky262 := vP c28
    rw [jE hky262, gCh.eq_1] at h
    refine goX ?_
    refine wI 1 rfl rfl ?_
    refine wI 2 rfl rfl ?_
    refine wI 3 rfl rfl ?_
    refine wI 4 rfl rfl ?_
    refine jN ?_
    cases h
    exact qH
end Go.Proofs.YtfaplndgbgoaaaaGreat
