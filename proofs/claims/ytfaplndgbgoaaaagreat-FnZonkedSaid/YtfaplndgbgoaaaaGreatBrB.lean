import Derived.Test.YtfaplndgbgoaaaaGreatEng38
import Derived.Test.YtfaplndgbgoaaaaGreatEng67
import Derived.Test.YtfaplndgbgoaaaaGreatB14
import Derived.Test.YtfaplndgbgoaaaaGreatPar
import Derived.Test.YtfaplndgbgoaaaaGreatB20
import Derived.Test.YtfaplndgbgoaaaaGreatB7
import Derived.Test.YtfaplndgbgoaaaaGreatVr
import Derived.Test.YtfaplndgbgoaaaaGreatCur
import Derived.Test.YtfaplndgbgoaaaaGreatSfi0
import Derived.Test.YtfaplndgbgoaaaaGreatB15
import Derived.Test.YtfaplndgbgoaaaaGreatUn1
import Derived.Test.YtfaplndgbgoaaaaGreatZz
import Derived.KernelRfl
import Derived.Test.YtfaplndgbgoaaaaGreatEq2
import Derived.Test.YtfaplndgbgoaaaaGreatEng53
set_option maxHeartbeats 4000000
set_option linter.unusedVariables false
set_option linter.unusedSimpArgs false
set_option linter.unusedSectionVars false
namespace Go.Proofs.YtfaplndgbgoaaaaGreat
open Go Go.Eng
attribute [local irreducible] V VO VQ VY Quiet QR jB kR Rng uX vB qY
def gIa (c : jA) : Option (gI × jA) :=
bnd (gC7 c) fun x1 =>
bnd (wJ x1.1) fun x2 =>
(some (x2.1, x1.2))
theorem gXc (c : jA) {r : gI × jA} (h : gIa c = some r) : Go.Eng.Spec Tryz.prog 13 [.ptr 0 0] [.box [.L 1 (kN c.b), .I c.i, .I c.h]] (fun sv Lo => sv = .d (kS r.1) ∧ Lo = [.box [.L 1 (kN r.2.b), .I r.2.i, .I r.2.h]]) := by
 obtain ⟨c_0, c_1, c_2⟩ := c
 unfold gIa at h
 refine kY 1 Tryz.func13 rfl (by kernel_rfl) rfl rfl fun A _ => ?_
 refine goL ?_
 obtain ⟨⟨x1_0, ⟨x1_1_0, x1_1_1, x1_1_2⟩⟩, hx1, h⟩ := gK h
 refine zH 0 (gOi (jA.mk c_0 c_1 c_2) hx1) ?_
 obtain ⟨⟨⟨x2_0_0⟩, x2_1⟩, hx2, h⟩ := gK h
 refine jH (gF (gNu x1_0 hx2)) ?_
 refine jN ?_
 obtain rfl := Option.some.inj h
 exact gEl [.d (.st [.sl 6 (kK x2_0_0)])] [.box [.L 1 (kN x1_1_0), .I x1_1_1, .I x1_1_2]] ⟨rfl, rfl⟩
end Go.Proofs.YtfaplndgbgoaaaaGreat
set_option maxHeartbeats 4000000
set_option linter.unusedVariables false
set_option linter.unusedSimpArgs false
set_option linter.unusedSectionVars false
namespace Go.Proofs.YtfaplndgbgoaaaaGreat
open Go Go.Eng
attribute [local irreducible] V VO VQ VY Quiet QR jB kR Rng uX vB qY
def gE9 (a0 : List UInt8) : Option (gG × gD) :=
lt_ (gIb a0) fun x1 =>
bnd (gIa x1) fun x2 =>
bnd (gMz x2.2) fun x3 =>
bnd (gWz x3.2 x2.1 x3.1) fun x4 =>
bnd (gHj 5000 x4.2 2) fun x5 =>
(some (x4.1, x5.1))
theorem gSy (a0 : List UInt8) {r : gG × gD} (h : gE9 a0 = some r) : jB Tryz.prog 5 [.L 1 (kN a0)] [mW r.1, jQ r.2] := by
 unfold gE9 at h
 refine SpI Tryz.func5 fun A _ => ?_
 refine goL ?_
 obtain ⟨⟨x1_0, x1_1, x1_2⟩, hx1, h⟩ := qU h
 have sx1 := hEj a0
 rw [hx1] at sx1
 refine gGc [] (sx1) ?_
 rintro _ _ ⟨rfl, rfl⟩
 show VO _ _ _ _ ⟨(_, .ptr 2 0) :: _, [.box [.I 0, .I 0, .I 0, .nilsl, .nilsl, .nilsl, .I 0, .I 0], .box [.I 0, .S [], .nilsl], .box [.L 1 (kN x1_0), .I x1_1, .I x1_2]], _⟩ _
 refine goL ?_
 obtain ⟨⟨⟨x2_0_0⟩, ⟨x2_1_0, x2_1_1, x2_1_2⟩⟩, hx2, h⟩ := gK h
 refine zH 2 (gXc (jA.mk x1_0 x1_1 x1_2) hx2) ?_
 refine goL ?_
 obtain ⟨⟨x3_0, ⟨x3_1_0, x3_1_1, x3_1_2⟩⟩, hx3, h⟩ := gK h
 refine zH 2 (gVx (jA.mk x2_1_0 x2_1_1 x2_1_2) hx3) ?_
 obtain ⟨⟨⟨x4_0_0, x4_0_1, x4_0_2, x4_0_3, x4_0_4, x4_0_5, x4_0_6, x4_0_7⟩, ⟨x4_1_0, x4_1_1, x4_1_2⟩⟩, hx4, h⟩ := gK h
 refine zH 2 (hD8 (jA.mk x3_1_0 x3_1_1 x3_1_2) (gI.mk x2_0_0) x3_0 hx4) ?_
 refine gIx ?_
 obtain ⟨⟨⟨x5_0_0, x5_0_1, x5_0_2⟩, ⟨x5_1_0, x5_1_1, x5_1_2⟩⟩, hx5, h⟩ := gK h
 refine uW (P := Tryz.prog) Mix.h (.q 1 (.h 0 (.h 2 (.h 3 (.h 4 .nil .nil) .nil) .nil) (.h 2 (.h 0 (.h 3 (.h 4 .nil .nil) .nil) .nil) .nil))) ⟨[(2, .ptr 0 0), (3, .ptr 1 0)], [.box [.I x4_0_0, .I x4_0_1, .I x4_0_2, .L 4 (gP x4_0_3), .L 7 (jP x4_0_4), .L 5 (jG x4_0_5), .I x4_0_6, .I x4_0_7], .box [.I x5_0_0, .S x5_0_1, .L 3 (gJ x5_0_2)], .box [.L 1 (kN x5_1_0), .I x5_1_1, .I x5_1_2], .box [.I x4_0_0, .I x4_0_1, .I x4_0_2, .L 4 (gP x4_0_3), .L 7 (jP x4_0_4), .L 5 (jG x4_0_5), .I x4_0_6, .I x4_0_7]], Tryz.f5.ntmps⟩ (by kernel_rfl) ?_ ?_
 ·refine goT ?_
  refine wO (mX jS) ?_ ?_
  ·refine jR (qA 2 (kG 5000 (jA.mk x4_1_0 x4_1_1 x4_1_2) 2 hx5) jS) ?_
   refine goT ?_
   refine jX ?_
   exact vC 0 [0, 1, 2, 3]
  refine jR (qA 2 (kG 5000 (jA.mk x4_1_0 x4_1_1 x4_1_2) 2 hx5) jS) ?_
  refine jR (mX jS) ?_
  refine goT ?_
  refine jX ?_
  exact vC 0 [0, 1, 2, 3]
 exact goR h
end Go.Proofs.YtfaplndgbgoaaaaGreat
set_option maxHeartbeats 4000000
set_option linter.unusedVariables false
set_option linter.unusedSimpArgs false
set_option linter.unusedSectionVars false
namespace Go.Proofs.YtfaplndgbgoaaaaGreat
open Go Go.Eng
attribute [local irreducible] V VO VQ VY Quiet QR jB kR Rng uX vB qY
def gG5 (a0 : List UInt8) : Option (Bool) :=
(cnd (gRv a0) (
(some true)) (
bnd (gE9 a0) fun x2 =>
bnd (gHk x2.1 x2.2) fun x3 =>
bnd (gd (bok (x2.1 : gG).bindings ∧ tok x2.2) (lt_ (zkF x2.1 x2.2) fun x6 =>
(cnd (!(teq x3 x6)) ((some true)) (bnd (gOt x2.2) fun x8 =>
(some (!(x8 == (gL0 x2.2)))))))) fun b4 =>
(cnd b4 (
(some false)) (
bnd (bnd (gHk x2.1 x3) fun x11 =>
(cnd (teq x11 x3) (bnd (gOt x2.2) fun x13 =>
(cnd x13 ((some true)) ((some (teq x3 x2.2))))) ((some false)))) fun b10 =>
(some b10)))))
theorem gSz (a0 : List UInt8) {r : Bool} (h : gG5 a0 = some r) : jB Tryz.prog 3 [.L 1 (kN a0)] [.b r] := by
 unfold gG5 at h
 refine SpI Tryz.func3 fun A _ => ?_
 refine goL ?_
 refine jH (gF (hHz a0)) ?_
 refine mF (fun c1 => ?_) (fun c1 => ?_)
 ·replace h := gW c1 h
  exact goR h
 ·replace h := gX c1 h
  refine goS ?_
  obtain ⟨⟨⟨x2_0_0, x2_0_1, x2_0_2, x2_0_3, x2_0_4, x2_0_5, x2_0_6, x2_0_7⟩, ⟨x2_1_0, x2_1_1, x2_1_2⟩⟩, hx2, h⟩ := gK h
  refine jH (gF (gSy a0 hx2)) ?_
  obtain ⟨⟨x3_0, x3_1, x3_2⟩, hx3, h⟩ := gK h
  refine qQ (gF ((gVl (gG.mk x2_0_0 x2_0_1 x2_0_2 x2_0_3 x2_0_4 x2_0_5 x2_0_6 x2_0_7) (gD.mk x2_1_0 x2_1_1 x2_1_2) hx3).p)) ?_
  refine gIx ?_
  obtain ⟨b4, hb4, h⟩ := gK h
  refine qP (P := Tryz.prog) Mix.h ⟨[(3, .ptr 0 0), (4, .ptr 1 0), (5, .ptr 2 0), (28, .B b4)], [.box [.I x2_0_0, .I x2_0_1, .I x2_0_2, .L 4 (gP x2_0_3), .L 7 (jP x2_0_4), .L 5 (jG x2_0_5), .I x2_0_6, .I x2_0_7], .box [.I x2_1_0, .S x2_1_1, .L 3 (gJ x2_1_2)], .box [.I x3_0, .S x3_1, .L 3 (gJ x3_2)]], Tryz.f3.ntmps⟩ (by kernel_rfl) ?_ ?_
  ·refine goL ?_
   obtain ⟨g5, hb4⟩ := pF hb4
   obtain ⟨⟨x6_0, x6_1, x6_2⟩, hx6, hb4⟩ := qU hb4
   have sx6 := gQx (gG.mk x2_0_0 x2_0_1 x2_0_2 x2_0_3 x2_0_4 x2_0_5 x2_0_6 x2_0_7) (gD.mk x2_1_0 x2_1_1 x2_1_2) g5
   rw [hx6] at sx6
   refine gCr (gF (sx6)) ?_
   refine gCr (gF (yU (gD.mk x3_0 x3_1 x3_2) (gD.mk x6_0 x6_1 x6_2))) ?_
   refine goL ?_
   refine wN 22 (fun c7 => ?_) (fun c7 => ?_)
   ·replace hb4 := gW c7 hb4
    refine goL ?_
    cases hb4
    exact eJ
   ·replace hb4 := gX c7 hb4
    refine goL ?_
    obtain ⟨x8, hx8, hb4⟩ := gK hb4
    refine gBo (gF (hC3 (gD.mk x2_1_0 x2_1_1 x2_1_2) hx8)) ?_
    refine goL ?_
    refine gBo (gF (gQ1 (gD.mk x2_1_0 x2_1_1 x2_1_2))) ?_
    refine goL ?_
    cases hb4
    exact eJ
  refine goC h ?_ ?_<;>intro c9 h
  ·exact goR h
  ·refine noS ?_
   obtain ⟨b10, hb10, h⟩ := gK h
   refine qP (P := Tryz.prog) Mix.h ⟨[(2, .B b10)], [.box [.I x2_0_0, .I x2_0_1, .I x2_0_2, .L 4 (gP x2_0_3), .L 7 (jP x2_0_4), .L 5 (jG x2_0_5), .I x2_0_6, .I x2_0_7], .box [.I x2_1_0, .S x2_1_1, .L 3 (gJ x2_1_2)], .box [.I x3_0, .S x3_1, .L 3 (gJ x3_2)]], Tryz.f3.ntmps⟩ (by kernel_rfl) ?_ ?_
   ·refine goL ?_
    obtain ⟨⟨x11_0, x11_1, x11_2⟩, hx11, hb10⟩ := gK hb10
    refine gCr (gF ((gVl (gG.mk x2_0_0 x2_0_1 x2_0_2 x2_0_3 x2_0_4 x2_0_5 x2_0_6 x2_0_7) (gD.mk x3_0 x3_1 x3_2) hx11).p)) ?_
    refine goL ?_
    refine gCr (gF (yU (gD.mk x11_0 x11_1 x11_2) (gD.mk x3_0 x3_1 x3_2))) ?_
    refine goL ?_
    refine wN 34 (fun c12 => ?_) (fun c12 => ?_)
    ·replace hb10 := gW c12 hb10
     refine goL ?_
     obtain ⟨x13, hx13, hb10⟩ := gK hb10
     refine gBo (gF (hC3 (gD.mk x2_1_0 x2_1_1 x2_1_2) hx13)) ?_
     refine goL ?_
     refine wN 37 (fun c14 => ?_) (fun c14 => ?_)
     ·replace hb10 := gW c14 hb10
      refine goL ?_
      cases hb10
      exact eJ
     ·replace hb10 := gX c14 hb10
      refine goL ?_
      refine gBo (gF (yU (gD.mk x3_0 x3_1 x3_2) (gD.mk x2_1_0 x2_1_1 x2_1_2))) ?_
      refine goL ?_
      cases hb10
      exact eJ
    ·replace hb10 := gX c12 hb10
     refine goL ?_
     cases hb10
     exact eJ
   exact goR h
end Go.Proofs.YtfaplndgbgoaaaaGreat
set_option maxHeartbeats 4000000
set_option linter.unusedVariables false
set_option linter.unusedSimpArgs false
set_option linter.unusedSectionVars false
namespace Go.Proofs.YtfaplndgbgoaaaaGreat
open Go Go.Eng
attribute [local irreducible] V VO VQ VY Quiet QR jB kR Rng uX vB qY
def VZ : List (List UInt8) := [[63, 48], [63, 49], [63, 50], [63, 51], [97]]
theorem gT4 {V : List (List UInt8)} {n : List UInt8} (h : n ∈ V) : DT V ⟨1, n, []⟩ := ⟨⟨gJu _ _, ⟨by decide, trivial⟩, fun v hv => by simp only [tvs, gJx, if_true, List.append_nil, List.mem_singleton] at hv; subst hv; exact h⟩, fun hk => absurd hk (by decide), trivial⟩
theorem gQ9 {V : List (List UInt8)} {n : List UInt8} {ts : List gD} (h : ∀ t ∈ ts, DT V t) (hl : ts.length ≤ 4294967296) : DT V ⟨2, n, ts⟩ := by
 refine ⟨⟨⟨hl, gF3.2 fun u hu => (h u hu).1.1⟩, ⟨by decide, gQt.2 fun u hu => (h u hu).1.2.1⟩, fun v hv => ?_⟩, ⟨fun hk => absurd hk (by decide), gKs.2 fun u hu => (h u hu).2⟩⟩
 have hv : v ∈ gJx ts := by
  simp only [tvs] at hv
  rw [if_neg (by decide), List.nil_append] at hv
  exact hv
 obtain ⟨u, h1, h2⟩ := gKd.1 hv
 exact (h u h1).1.2.2 v h2
theorem hGm {V : List (List UInt8)} {u : gD} (h : DT V u) : DT V (gWp u) := ⟨hDw h.1, fun _ => rfl, h.2, trivial⟩
theorem gRa (s : List UInt8) (args : List gD) (h : args.length ≤ 4294967296) : gGe s args = some ⟨2, s, args⟩ := by
 unfold gGe
 rw [pQ (by simpa using h)]
 rfl
theorem gXd (c : jA) (l : List gD) (h : gAp c) (h0 : 0 < l.length) (h1 : l.length ≤ 256) : ∃ x c', gGp c l = some (x, c') ∧ gAp c' ∧ x ∈ l := by
 obtain ⟨x, c', e, e1, e2, e3⟩ := gEn c l.length h (by omega) (by omega)
 unfold gGp
 have hx : at? l x = some (l[x.toNat]'(by omega)) := by unfold at?; rw [if_pos e1]; exact List.getElem?_eq_getElem _
 rw [kH e, kH hx]
 exact ⟨_, _, rfl, e3, List.getElem_mem _⟩
theorem hD9 {x : Int} (h0 : 0 ≤ x) (h1 : x < 4) : (([63] : List UInt8) ++ Lib.itoa x) ∈ VZ ∧ (Lib.itoa x).length ≤ 10 := by
 have : x = 0 ∨ x = 1 ∨ x = 2 ∨ x = 3 := by omega
 rcases this with rfl | rfl | rfl | rfl
 ·have e : Lib.itoa 0 = [48] := by kernel_rfl
  rw [e]; decide
 ·have e : Lib.itoa 1 = [49] := by kernel_rfl
  rw [e]; decide
 ·have e : Lib.itoa 2 = [50] := by kernel_rfl
  rw [e]; decide
 ·have e : Lib.itoa 3 = [51] := by kernel_rfl
  rw [e]; decide
theorem hLh {rec : jA → Int → Option (gD × jA)} (d : Nat) (hd : d ≤ 8) (hrec : ∀ e, d = e + 1 → ∀ c, gAp c → ∃ t c', rec c (e : Int) = some (t, c') ∧ gAp c' ∧ DT VZ t ∧ tnd t ≤ 4 ^ (e + 1)) (c : jA) (hc : gAp c) : ∃ t c', gN2 rec c (d : Int) = some (t, c') ∧ gAp c' ∧ DT VZ t ∧ tnd t ≤ 4 ^ (d + 1) := by
 have hpow : 4 ≤ 4 ^ (d + 1) := by rw [Nat.pow_succ]; have : 1 ≤ 4 ^ d := Nat.one_le_pow _ _ (by omega); omega
 obtain ⟨x, c1, e1, e2, e3, e4⟩ := gEn c 6 hc (by omega) (by omega)
 unfold gN2
 rw [kH e1]
 have hb : ∃ b, cnd (x == 0) (some (x == 0)) (some (x == 1)) = some b := by cases x == 0 <;> exact ⟨_, rfl⟩
 obtain ⟨b, hb⟩ := hb
 rw [kH hb]
 cases b with
 | true =>
   simp only [jI]
   obtain ⟨y, c2, f1, f2, f3, f4⟩ := gEn c1 4 e4 (by omega) (by omega)
   obtain ⟨g1, g2⟩ := hD9 f2 f3
   rw [kH f1, pQ (show gD5 y from ⟨by omega, by omega⟩), pQ (by simp only [List.length_cons, List.length_nil]; omega)]
   exact ⟨_, _, rfl, f4, gT4 g1, by simp only [gC0, tnd, gA8]; omega⟩
 | false =>
   simp only [gN]
   cases x == 2 with
   | true =>
     simp only [jI]
     obtain ⟨s, c2, f1, f2, _⟩ := gQr c1 [[105, 110, 116], [98, 111, 111, 108]] e4 (by simp) (by simp)
     rw [kH f1, kH (gRa _ [] (by simp))]
     exact ⟨_, _, rfl, f2, gQ9 (by simp) (by simp), by simp only [tnd, gA8]; omega⟩
   | false =>
     simp only [gN]
     cases x == 3 with
     | true =>
       simp only [jI, lt_]
       have hI : gK3 = some ⟨2, [105, 110, 116], []⟩ := by unfold gK3; rw [kH (gRa _ [] (by simp))]
       rw [kH hI, kH hI, kH (gRa _ [⟨2, [105, 110, 116], []⟩] (by simp))]
       obtain ⟨t, c2, f1, f2, f3⟩ := gXd c1 [gC0 [63, 49], ⟨2, [105, 110, 116], []⟩, gC0 [97], ⟨2, [98, 111, 120], [⟨2, [105, 110, 116], []⟩]⟩] e4 (by simp) (by simp)
       rw [kH f1]
       have ht : DT VZ t ∧ tnd t ≤ 2 := by
        have hi : DT VZ ⟨2, [105, 110, 116], []⟩ := gQ9 (by simp) (by simp)
        simp only [List.mem_cons, List.not_mem_nil, or_false] at f3
        rcases f3 with rfl | rfl | rfl | rfl
        ·exact ⟨gT4 (by decide), by decide⟩
        ·exact ⟨hi, by decide⟩
        ·exact ⟨gT4 (by decide), by decide⟩
        ·exact ⟨gQ9 (by simpa using hi) (by simp), by decide⟩
       unfold gMb
       rw [pQ ht.1.1.1]
       exact ⟨_, _, rfl, f2, hGm ht.1, by simp only [idT, tnd, gA8]; omega⟩
     | false =>
       simp only [gN]
       cases d with
       | zero =>
         rw [show decide (((0 : Nat) : Int) ≤ 0) = true from by decide]
         exact ⟨_, _, rfl, e4, gT4 (by decide), by simp only [gC0, tnd, gA8]; omega⟩
       | succ d =>
         rw [show decide (((d + 1 : Nat) : Int) ≤ 0) = false from decide_eq_false (by omega), gN, show IntKind.i64.wrap (((d + 1 : Nat) : Int) - 1) = (d : Int) from by rw [wM _ (by omega) (by omega)]; omega]
         have hp : 4 ^ (d + 1 + 1) = 4 ^ (d + 1) * 4 := Nat.pow_succ ..
         have hp1 : 1 ≤ 4 ^ (d + 1) := Nat.one_le_pow _ _ (by omega)
         obtain ⟨y, c2, f1, f2⟩ := gJv c1 2 e4 (by omega) (by omega)
         rw [kH f1]
         obtain ⟨t1, c3, g1, g2, g3, g4⟩ := hrec d rfl c2 f2
         cases y with
         | true =>
           simp only [jI]
           rw [kH g1, kH (gRa _ [t1] (by simp))]
           exact ⟨_, _, rfl, g2, gQ9 (by simpa using g3) (by simp), by simp only [tnd, gA8]; omega⟩
         | false =>
           simp only [gN]
           obtain ⟨t2, c4, k1, k2, k3, k4⟩ := hrec d rfl c3 g2
           rw [kH g1, kH k1, kH (gRa _ [t1, t2] (by simp))]
           exact ⟨_, _, rfl, k2, gQ9 (by simp [g3, k3]) (by simp), by simp only [tnd, gA8]; omega⟩
theorem hC9 : ∀ (n d : Nat), d < n → d ≤ 8 → ∀ c, gAp c → ∃ t c', gHj n c (d : Int) = some (t, c') ∧ gAp c' ∧ DT VZ t ∧ tnd t ≤ 4 ^ (d + 1)
 | 0, d, h, _ => by omega
 | n + 1, d, h, h8 => fun c hc => by
   rw [gHj]
   exact hLh d h8 (fun e he c hc => hC9 n e (by omega) (by omega) c hc) c hc
theorem gXe (c : jA) (hc : gAp c) : ∃ t c', gHj 5000 c 2 = some (t, c') ∧ gAp c' ∧ DT VZ t ∧ tnd t ≤ 64 := hC9 5000 2 (by omega) (by omega) c hc
theorem hGo (x1 : Int × jA) (h3 : x1.1 ≤ 3) : ∀ (n k : Nat) (c : jA) (acc : List jF), 0 < n → x1.1 < k + n → gAp c → acc.length = k → k ≤ 900 → gN4 acc → ∃ l c', gA4 x1 n c.b c.i c.h acc (k : Int) = some (l, c') ∧ gAp c' ∧ gN4 l ∧ l.length ≤ 1000
 | 0, k, c, acc, h, _, _, _, _, _ => by omega
 | n + 1, k, c, acc, _, h, hc, ha, hk, hw => by
   rw [gA4]
   cases hd : decide ((k : Int) < x1.1) with
   | false => exact ⟨_, _, rfl, hc, hw, by omega⟩
   | true =>
     have hd := of_decide_eq_true hd
     obtain ⟨s, c1, f1, f2, f3⟩ := gQr c [[115, 104, 111, 119], [111, 114, 100], [97, 100, 100]] hc (by simp) (by simp)
     obtain ⟨v, c2, g1, g2, _⟩ := gQr c1 [[97], [98]] f2 (by simp) (by simp)
     have f1 : gEi ⟨c.b, c.i, c.h⟩ [[115, 104, 111, 119], [111, 114, 100], [97, 100, 100]] = some (s, c1) := f1
     rw [jI, kH f1, kH g1]
     simp only [lt_]
     rw [pQ (by simp; omega), show IntKind.i64.wrap ((k : Int) + 1) = ((k + 1 : Nat) : Int) from gQo (by omega)]
     refine hGo x1 h3 n (k + 1) c2 _ (by omega) (by omega) g2 (by simp [ha]) (by omega) (fun b hb => ?_)
     rcases List.mem_append.1 hb with hb | hb
     ·exact hw b hb
     ·simp only [List.mem_singleton] at hb
      subst hb
      refine ⟨?_, gJu _ _⟩
      simp only [List.mem_cons, List.not_mem_nil, or_false] at f3
      exact f3
theorem hAu (c : jA) (hc : gAp c) : ∃ l c', gMz c = some (l, c') ∧ gAp c' ∧ gN4 l ∧ l.length ≤ 1000 := by
 obtain ⟨x, c1, e1, e2, e3, e4⟩ := gEn c 3 hc (by omega) (by omega)
 unfold gMz gIt
 rw [kH e1]
 exact hGo (x, c1) (by simp only; omega) 5000 0 c1 [] (by omega) (by simp only; omega) e4 rfl (by omega) (fun b hb => by simp at hb)
theorem hEb (c : jA) (hc : gAp c) : ∃ w k c', gIa c = some (w, c') ∧ gAp c' ∧ gVe w k := by
 obtain ⟨b, c1, e1, e2⟩ := hFx c hc
 have hC : okC b = true := by cases b; · exact hPe
                              ·exact hPd
 obtain ⟨p, p1, p2, _, p4, p5, p6⟩ := gY1 (by omega) hC
 have hp : p = pC b := by unfold pC; rw [p2]
 subst hp
 obtain ⟨y, c2, f1, f2⟩ := gJv c1 5 e2 (by omega) (by omega)
 unfold gIa gC7
 rw [kH e1, kH f1]
 cases y with
 | true =>
   have hP : wJ (fmt (gQq b)) = some (⟨[pC b]⟩, -1) := by
    unfold wJ
    rw [kH (hHv _ p5 (by omega))]
    simp only [qL, p4, gN, p1, bnd, lt_, Bool.not_true]
    rw [show (((([] : List jY).length : Nat) : Int) == 5) = false from by decide, gN, pQ (by simp)]
    rfl
   simp only [jI, bnd]
   rw [hP]
   exact ⟨_, kC b, _, rfl, f2, hC8 b [] (.inl rfl)⟩
 | false =>
   simp only [gN]
   obtain ⟨hd, m, o1, o2, o3, c3, g1, g2, g3, g4, g5, g6, g7⟩ := hId c2 f2
   have hA := hLf
   unfold okA at hA
   have h1 := List.all_eq_true.1 hA hd g3
   have h2 := List.all_eq_true.1 h1 m g4
   have h3 := List.all_eq_true.1 h2 o1 (by rcases g5 with rfl | rfl <;> simp)
   have h4 := List.all_eq_true.1 h3 o2 (by rcases g6 with rfl | rfl <;> simp)
   have h5 := List.all_eq_true.1 h4 o3 (by rcases g7 with rfl | rfl <;> simp)
   obtain ⟨q, q1, _, q3, q4, q5, q6⟩ := gY1 (by omega) h5
   simp only [Bool.and_eq_true, decide_eq_true_eq] at q3
   rw [pQ (by simp; omega), kH g1, pQ (by simp; omega)]
   simp only [bnd]
   have hP : wJ (fmt (gQq b) ++ [10] ++ fmt (hFu hd m o1 o2 o3)) = some (⟨[pC b, q]⟩, -1) := by
    unfold wJ
    have hs : gC1 (fmt (gQq b) ++ [10] ++ fmt (hFu hd m o1 o2 o3)) 10 = some [fmt (gQq b), fmt (hFu hd m o1 o2 o3)] := hHx _ _ p5 q5 (by omega)
    rw [kH hs]
    simp only [qL, p4, q4, gN, p1, q1, bnd, lt_, Bool.not_true]
    rw [show (((([] : List jY).length : Nat) : Int) == 5) = false from by decide, gN, pQ (by simp)]
    rw [show ((((([] ++ [pC b]) : List jY).length : Nat) : Int) == 5) = false from by simp, gN, pQ (by simp)]
    rfl
   rw [hP]
   exact ⟨_, kC b, _, rfl, g2, hC8 b [q] (.inr ⟨q, rfl, q3.1, q3.2⟩)⟩
theorem gLn : ∀ (xs y : List gH), (∀ b ∈ xs, tok b.type_) → y.length + xs.length ≤ 4294967296 → gAk xs y = some (y ++ xs)
 | [], y, _, _ => by simp [gAk]
 | x :: xs, y, h, hl => by
   simp only [List.length_cons] at hl
   rw [gAk, pQ (h x (by simp))]
   simp only [lt_, idT]
   rw [pQ (by simp; omega), gLn xs _ (fun b hb => h b (by simp [hb])) (by simp; omega)]
   simp
theorem gM3 (s : gG) (ho : s.obligations = []) (b : List gH) : ∀ (xs y : List mP), (∀ q ∈ xs, tok q.a ∧ tok q.b) → y.length + xs.length ≤ 4294967296 → wS s b xs y = some ⟨s.next, s.count, s.node, b, y ++ xs, [], s.code, s.at_⟩
 | [], y, _, _ => by simp [wS, ho, gAv]
 | x :: xs, y, h, hl => by
   simp only [List.length_cons] at hl
   rw [wS, pQ (h x (by simp)).1]
   simp only [lt_, idT]
   rw [pQ (h x (by simp)).2, pQ (by simp; omega), gM3 s ho b xs _ (fun q hq => h q (by simp [hq])) (by simp; omega)]
   simp
theorem hAv {V : List (List UInt8)} {s : gG} (h : Inv V s) (hV : V.length ≤ 5) (he : s.equations.length ≤ 4294967296) : gGh s = some s := by
 have hl := h.len
 unfold gGh gMc
 rw [kH (gLn s.bindings [] h.bok (by simp; omega)), gM3 s h.obl _ s.equations [] h.eqs (by simp; omega)]
 obtain ⟨a, b, c, d, e, f, g, i⟩ := s
 have := h.obl
 simp only at this
 subst this
 simp
def eqB (k : Nat) : Nat := 1000000000 * k
theorem hAw {w : gI} {k : Int} (hw : gVe w k) {wh : List jF} (hwh : gN4 wh) (hwl : wh.length ≤ 1000) {s : gG} (hi : Inv VZ s) {a b : gD} (ha : DT VZ a) (hb : DT VZ b) (hta : tnd a ≤ 64) (htb : tnd b ≤ 64) (j : Nat) (hj : j ≤ 2) (he : s.equations.length ≤ eqB j) :
  ∃ s', zS w wh s a b = some s' ∧ Inv VZ s' ∧ s'.equations.length ≤ eqB (j + 1) := by
 have hk := hBu
 have hV : VZ.length ≤ 5 := by decide
 unfold eqB at *
 have h6 : KQ * (40 + 1) * (6 - s.bindings.length) ≤ KQ * (40 + 1) * 6 := Nat.mul_le_mul_left _ (by omega)
 rw [hk] at h6
 obtain ⟨s', q1, q2, q3⟩ := gYy hw hwh hwl hV 40 5000 (by omega) (by omega) s a b hi ha hb (by omega) (by omega) (by rw [hk]; omega)
 have q1 : wX 5000 w wh s a b 40 = some s' := q1
 have hl := q2.len
 have hle := q3.le
 have h5 : KQ * (40 + 1) * (s'.bindings.length - s.bindings.length) ≤ KQ * (40 + 1) * 5 := Nat.mul_le_mul_left _ (by omega)
 rw [hk] at h5 hle
 unfold zS
 rw [kH q1, kH (hAv q2 hV (by omega))]
 exact ⟨s', rfl, q2, by omega⟩
theorem hAy {w : gI} {k : Int} (hw : gVe w k) {wh : List jF} (hwh : gN4 wh) (hwl : wh.length ≤ 1000) (x2 : Int × jA) (h3 : x2.1 ≤ 3) : ∀ (n j : Nat) (c : jA) (s : gG), 0 < n → x2.1 < j + n → j ≤ 3 → gAp c → Inv VZ s → s.equations.length ≤ eqB j →
  ∃ s' c', gBs w wh x2 n c.b c.i c.h s.next s.count s.node s.bindings s.equations s.obligations s.code s.at_ (j : Int) = some (s', c') ∧ gAp c' ∧ Inv VZ s'
 | 0, j, c, s, h, _, _, _, _, _ => by omega
 | n + 1, j, c, s, _, h, hj, hc, hi, he => by
   rw [gBs]
   cases hd : decide ((j : Int) < x2.1) with
   | false => exact ⟨s, c, rfl, hc, hi⟩
   | true =>
     have hd := of_decide_eq_true hd
     obtain ⟨a, c1, a1, a2, a3, a4⟩ := gXe c hc
     obtain ⟨b, c2, b1, b2, b3, b4⟩ := gXe c1 a2
     have a1 : gHj 5000 ⟨c.b, c.i, c.h⟩ 2 = some (a, c1) := a1
     obtain ⟨s', q1, q2, q3⟩ := hAw hw hwh hwl hi a3 b3 a4 b4 j (by omega) he
     have q1 : zS w wh ⟨s.next, s.count, s.node, s.bindings, s.equations, s.obligations, s.code, s.at_⟩ a b = some s' := q1
     rw [jI, kH a1, kH b1]
     simp only
     rw [kH q1, show IntKind.i64.wrap ((j : Int) + 1) = ((j + 1 : Nat) : Int) from gQo (by omega)]
     have he' : s.equations.length ≤ eqB (j + 1) := by unfold eqB at *; omega
     cases s'.code == 0 with
     | true => exact hAy hw hwh hwl x2 h3 n (j + 1) c2 s' (by omega) (by omega) (by omega) b2 q2 q3
     | false =>
       obtain ⟨y, c3, f1, f2⟩ := gJv c2 12 b2 (by omega) (by omega)
       rw [gN, kH f1]
       cases y with
       | true => exact hAy hw hwh hwl x2 h3 n (j + 1) c3 s' (by omega) (by omega) (by omega) f2 q2 q3
       | false => exact hAy hw hwh hwl x2 h3 n (j + 1) c3 s (by omega) (by omega) (by omega) f2 hi he'
theorem Inv.start (V : List (List UInt8)) (x : Int) : Inv V ⟨4, 0, x, [], [], [], 0, 0⟩ := ⟨fun i b h => by simp at h, fun b h => by simp at h, fun b h => by simp at h, rfl, fun q h => by simp at h⟩
theorem hLl {w : gI} {k : Int} (hw : gVe w k) {wh : List jF} (hwh : gN4 wh) (hwl : wh.length ≤ 1000) (c : jA) (hc : gAp c) : ∃ s c', gWz c w wh = some (s, c') ∧ gAp c' ∧ Inv VZ s := by
 obtain ⟨x, c1, e1, _, _, e4⟩ := gEn c 5 hc (by omega) (by omega)
 obtain ⟨y, c2, f1, f2, f3, f4⟩ := gEn c1 4 e4 (by omega) (by omega)
 unfold gWz gPn
 rw [kH e1, kH f1]
 exact hAy hw hwh hwl (y, c2) (by simp only; omega) 5000 0 c2 ⟨4, 0, x, [], [], [], 0, 0⟩ (by omega) (by simp only; omega) (by omega) f4 (.start _ _) (by simp [eqB])
theorem hEc (code : List UInt8) (h : gAp (gIb code)) : ∃ s t, gE9 code = some (s, t) ∧ Inv VZ s ∧ DT VZ t ∧ tnd t ≤ 64 := by
 obtain ⟨w, k, c1, a1, a2, a3⟩ := hEb _ h
 obtain ⟨wh, c2, b1, b2, b3, b4⟩ := hAu c1 a2
 obtain ⟨s, c3, d1, d2, d3⟩ := hLl a3 b3 b4 c2 b2
 obtain ⟨t, c4, e1, e2, e3, e4⟩ := gXe c3 d2
 unfold gE9
 simp only [lt_]
 rw [kH a1, kH b1, kH d1, kH e1]
 exact ⟨s, t, rfl, d3, e3, e4⟩
theorem gRb {s : gG} (hi : Inv VZ s) {t : gD} (ht : tok t) (htn : tnd t ≤ 8000000) : gHk s t = some (zkF s t) := by
 unfold gHk
 rw [kH (hC1 s t (M := 2000) (by omega) hi.bok hi.gWo ht (by omega))]
theorem gS0 (code : List UInt8) (h : code.length ≤ 1048576 → gAp (gIb code)) : gG5 code = some true := by
 unfold gG5 gRv
 cases hb : decide ((code.length : Int) > 1048576) with
 | true => rfl
 | false =>
   have hb := of_decide_eq_false hb
   simp only [gN]
   obtain ⟨s, t, e1, hi, hD, ht⟩ := hEc code (h (by omega))
   have hx := hCv (fun c hc => (hi.dt c hc).1) 60 t hD
   have tx := gVj hi.gWo 60 t (by omega)
   have hl := hi.len
   have dx := gQu hi.tri 60 0 t (hPc _ _) (by have : VZ.length = 5 := rfl; omega)
   have hidem : zkF s (zkF s t) = zkF s t := gIn 60 dx
   have hteq : ∀ u : gD, teq u u = true := fun u => (gNz u u).2 rfl
   rw [kH e1]
   simp only
   rw [kH (gRb hi hD.1.1 (by omega)), pQ ⟨hi.bok, hD.1.1⟩]
   simp only [lt_, hteq, Bool.not_true, gN]
   rw [kH (gWv t (by omega))]
   simp only [beq_self_eq_true, Bool.not_true, bnd, gN]
   rw [show gHk s (zkF s t) = some (zkF s (zkF s t)) from gRb hi hx.1.1 tx]
   simp only [hidem, hteq, jI]
   rw [gWv t (by omega)]
   simp only
   cases hh : gL0 t with
   | true => rfl
   | false =>
     have : zkF s t = t := gIn 60 (.inl (gTf hh))
     simp only [gN, this, hteq]
end Go.Proofs.YtfaplndgbgoaaaaGreat
set_option linter.unusedVariables false
set_option linter.unusedSimpArgs false
namespace Go.Proofs.YtfaplndgbgoaaaaGreat
open Go Go.Eng Go.RowKit
theorem hEd {H : Type} {enc : TypeId × Value → H} {P : Program} {w : World} {sp : Nat → Bool} {held : Bool} {T e : TypeId} {v : Value} {d : DataW H} {ps : List MemPlace} (hund : P.underlying T = some (.slice e)) (he : P.underlying e = some (.int .u8)) (hce : P.cellsOf e = 1) (hbe : 0 < P.bytesOf e)
  (h : DataW.Trod enc P w 0 sp held T v d ps) (hw : ∀ x ∈ d.weights P T, x ≤ reachBytes) (hna : ∀ cs, v ≠ .agg cs) : ∃ code : List UInt8, SVr (fun b => b < w.heap.size) [] [] w (.d (.sl 1 (kN code))) v := by
 obtain ⟨fuel, h⟩ := h
 have hc : v.cells = #[v] := by cases v <;> first | rfl | (exact absurd rfl (hna _))
 rw [hc] at h
 suffices hs : ∃ code : List UInt8, Rd (fun b => b < w.heap.size) w (.sl 1 (kN code)) [v] by
  obtain ⟨code, h1⟩ := hs
  refine ⟨code, ?_⟩
  simp only [SVr]
  exact ⟨[v], by simp [val, U.isSt], h1⟩
 have hlenB : ∀ l : List UInt8, (kN l).length = l.length := fun l => Enc.len l
 cases fuel with
 | zero => simp [DataW.trod] at h
 | succ fuel =>
   rcases DataW.trod_slice hund h with ⟨h0, hx⟩ | ⟨a, len, cap, elems, rest, n, hn, h0, hx, _, hlc, _, hel, hget, _, _⟩
   ·simp at h0
    subst h0
    exact ⟨[], by simp only [Rd, kN]; exact ⟨by simp [yN], none, 0, rfl, .inl trivial⟩⟩
   ·obtain rfl : fuel = n := by omega
    simp at h0
    subst h0
    simp only [Prod.mk.injEq] at hx
    obtain ⟨rfl, rfl⟩ := hx
    simp only [DataW.weights, hund] at hw
    have hlen : len ≤ big := by
     have h1 := hw _ (List.mem_cons_self)
     simp only [List.length_map] at h1
     refine gXk (Nat.le_trans ?_ h1)
     rw [hel]
     calc len ≤ len * P.bytesOf e := Nat.le_mul_of_pos_right _ hbe
      _ ≤ (len + rest.length) * P.bytesOf e := Nat.mul_le_mul_right _ (by omega)
    have each : ∀ i, i < len → ∃ x : UInt8, (a.spot = none → At w a.block (a.off + i * 1) [.int .u8 (x.toNat : Int)]) ∧ (i = 0 → a.spot = none) ∧ a.block < w.heap.size := by
     intro i hi
     have h1 := hget i hi
     rw [List.getElem?_eq_getElem (by omega)] at h1
     cases hc : w.cells? 0 (a.add (i * P.cellsOf e)) (P.cellsOf e) with
     | none => rw [hc] at h1; simp at h1
     | some cs =>
       rw [hc] at h1
       simp only [Option.bind_some] at h1
       rw [hce] at hc
       obtain ⟨k1, k2, k3⟩ := hA4 (by omega) hc
       obtain ⟨m, rfl, _, hwf⟩ := DataW.trod_int he h1
       simp [Lit.wf, IntKind.min, IntKind.max, IntKind.bits, IntKind.signed] at hwf
       have hblk : (a.add (i * 1)).block = a.block := by unfold Addr.add; split <;> rfl
       refine ⟨UInt8.ofNat m.toNat, fun hsp => ?_, fun h0 => ?_, ?_⟩
       ·have hoff : (a.add (i * 1)).off = a.off + i * 1 := by unfold Addr.add; split <;> simp_all
        rw [hblk, hoff] at k3
        have e1 : ((UInt8.ofNat m.toNat).toNat : Int) = m := by
         rw [UInt8.toNat_ofNat']
         omega
        rw [e1]
        exact k3
       ·subst h0
        rw [Nat.zero_mul] at k2
        exact k2
       ·rw [← hblk]; exact k3.lt
    obtain ⟨us, hul, hus⟩ := gNb len each
    refine ⟨us, ?_⟩
    simp only [Rd]
    refine ⟨by rw [hlenB, hul]; exact hlen, some a, cap - len, by rw [hlenB, hul, Nat.add_sub_cancel' hlc], ?_⟩
    by_cases h0 : us = []
    ·subst h0; exact .inl rfl
    ·have hpos : 0 < len := by rw [← hul]; exact List.length_pos_iff.2 h0
     obtain ⟨u0, _, hsp, hblt⟩ := each 0 hpos
     have hsp := hsp rfl
     refine .inr ⟨a.block, a.off, ?_, hblt, RdE.mk (kN us) a.off (fun k u hk => ?_)⟩
     ·obtain ⟨b, o, sp⟩ := a
      simp only at hsp
      subst hsp
      rfl
     ·have hk2 : k < us.length := by rw [← hlenB]; exact (List.getElem?_eq_some_iff.1 hk).1
      have hk3 := hE3 (List.getElem?_eq_getElem hk2)
      rw [hk] at hk3
      obtain rfl := Option.some.inj hk3
      obtain ⟨k1, _, _⟩ := hus k _ (List.getElem?_eq_getElem hk2)
      exact ⟨_, rfl, k1 hsp, by simp only [Rd]⟩
end Go.Proofs.YtfaplndgbgoaaaaGreat
