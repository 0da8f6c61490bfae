/- Ov3. Written by a program of mine (aw.py). -/
import Derived.Test.YtiaghdodeinecaaEng43
import Derived.Test.YtiaghdodeinecaaMt
import Derived.Test.YtiaghdodeinecaaMs
import Derived.Test.YtiaghdodeinecaaMe1
import Derived.Test.YtiaghdodeinecaaOv2
set_option linter.unusedVariables false
set_option linter.unusedSimpArgs false
set_option linter.unusedSectionVars false
namespace Go.Proofs.Ytiaghdodeinecaa
open Go Go.Eng
attribute [local irreducible] V VO VQ VY Quiet QR SpecP SpecO Rng PostP PostO PostG
def b_sAtLeast (a0 : TType) (a1 : TType) : Option (Bool) :=
bnd (b_sMatches a1 a0) fun x1 =>
(some x1)
set_option maxHeartbeats 4000000 in
theorem w_sAtLeast (a0 : TType) (a1 : TType) {r : Bool} (h : b_sAtLeast a0 a1 = some r) : SpecP Try.prog 42 [.d (eType a0), .d (eType a1)] [.b r] := by
  obtain ⟨a0_0, a0_1, a0_2⟩ := a0
  obtain ⟨a1_0, a1_1, a1_2⟩ := a1
  unfold b_sAtLeast at h
  refine SpecP_intro Try.func42 rfl (by kernel_rfl) rfl fun A _ => ?_
  refine goL ?_
  obtain ⟨x1, hx1, h⟩ := bnd_s h
  refine VO_r (QR_call (w_sMatches (TType.mk a1_0 a1_1 a1_2) (TType.mk a0_0 a0_1 a0_2) hx1)) ?_
  refine goL ?_
  refine V_ret ?_
  replace h := Option.some.inj h
  subst h
  exact R_rP
def b_sMoreSpec (a0 : TType) (a1 : TType) : Option (Bool) :=
bnd (b_sAtLeast a0 a1) fun x1 =>
bnd ((cnd x1 (bnd (b_sAtLeast a1 a0) fun x4 =>
(some (!x4))) ((some false)))) fun b2 =>
(some b2)
set_option maxHeartbeats 4000000 in
theorem w_sMoreSpec (a0 : TType) (a1 : TType) {r : Bool} (h : b_sMoreSpec a0 a1 = some r) : SpecP Try.prog 21 [.d (eType a0), .d (eType a1)] [.b r] := by
  obtain ⟨a0_0, a0_1, a0_2⟩ := a0
  obtain ⟨a1_0, a1_1, a1_2⟩ := a1
  unfold b_sMoreSpec at h
  refine SpecP_intro Try.func21 rfl (by kernel_rfl) rfl fun A _ => ?_
  refine goL ?_
  obtain ⟨x1, hx1, h⟩ := bnd_s h
  refine VO_r (QR_call (w_sAtLeast (TType.mk a0_0 a0_1 a0_2) (TType.mk a1_0 a1_1 a1_2) hx1)) ?_
  refine goL ?_
  obtain ⟨b2, hb2, h⟩ := bnd_s h
  refine VO_join ⟨[(4, .d (.b b2))], [.box [.d (.i .i64 a0_0), .d (.s a0_1), .d (.sl 3 (eTypes a0_2))], .box [.d (.i .i64 a1_0), .d (.s a1_1), .d (.sl 3 (eTypes a1_2))]], Try.f21.ntmps⟩ ?_ ?_
  · refine VO_case 8 (fun c3 => ?_) (fun c3 => ?_)
    · replace hb2 := cnd_t c3 hb2
      refine goL ?_
      refine VO_b ?_
      obtain ⟨x4, hx4, hb2⟩ := bnd_s hb2
      refine VO_r (QR_call (w_sAtLeast (TType.mk a1_0 a1_1 a1_2) (TType.mk a0_0 a0_1 a0_2) hx4)) ?_
      refine goL ?_
      cases hb2
      exact ⟨rfl, ⟨⟨rfl, rfl⟩, trivial⟩, ⟨[], rfl⟩, rfl⟩
    · replace hb2 := cnd_f c3 hb2
      refine goL ?_
      cases hb2
      exact ⟨rfl, ⟨⟨rfl, rfl⟩, trivial⟩, ⟨[], rfl⟩, rfl⟩
  refine goL ?_
  refine V_ret ?_
  replace h := Option.some.inj h
  subst h
  exact R_rP
def b_iMoreSpec (a0 : TType) (a1 : TType) : Option (Bool) :=
bnd (b_iMatches a1 a0) fun x1 =>
bnd ((cnd x1 (bnd (b_iMatches a0 a1) fun x4 =>
(some (!x4))) ((some false)))) fun b2 =>
(some b2)
set_option maxHeartbeats 4000000 in
theorem w_iMoreSpec (a0 : TType) (a1 : TType) {r : Bool} (h : b_iMoreSpec a0 a1 = some r) : SpecP Try.prog 11 [.d (eType a0), .d (eType a1)] [.b r] := by
  obtain ⟨a0_0, a0_1, a0_2⟩ := a0
  obtain ⟨a1_0, a1_1, a1_2⟩ := a1
  unfold b_iMoreSpec at h
  refine SpecP_intro Try.func11 rfl (by kernel_rfl) rfl fun A _ => ?_
  refine goL ?_
  obtain ⟨x1, hx1, h⟩ := bnd_s h
  refine VO_r (QR_call (w_iMatches (TType.mk a1_0 a1_1 a1_2) (TType.mk a0_0 a0_1 a0_2) hx1)) ?_
  refine goL ?_
  obtain ⟨b2, hb2, h⟩ := bnd_s h
  refine VO_join ⟨[(4, .d (.b b2))], [.box [.d (.i .i64 a0_0), .d (.s a0_1), .d (.sl 3 (eTypes a0_2))], .box [.d (.i .i64 a1_0), .d (.s a1_1), .d (.sl 3 (eTypes a1_2))]], Try.f11.ntmps⟩ ?_ ?_
  · refine VO_case 8 (fun c3 => ?_) (fun c3 => ?_)
    · replace hb2 := cnd_t c3 hb2
      refine goL ?_
      refine VO_b ?_
      obtain ⟨x4, hx4, hb2⟩ := bnd_s hb2
      refine VO_r (QR_call (w_iMatches (TType.mk a0_0 a0_1 a0_2) (TType.mk a1_0 a1_1 a1_2) hx4)) ?_
      refine goL ?_
      cases hb2
      exact ⟨rfl, ⟨⟨rfl, rfl⟩, trivial⟩, ⟨[], rfl⟩, rfl⟩
    · replace hb2 := cnd_f c3 hb2
      refine goL ?_
      cases hb2
      exact ⟨rfl, ⟨⟨rfl, rfl⟩, trivial⟩, ⟨[], rfl⟩, rfl⟩
  refine goL ?_
  refine V_ret ?_
  replace h := Option.some.inj h
  subst h
  exact R_rP
def b_sOverlap (a0 : TInstance) (a1 : TInstance) : Option (Bool) :=
bnd ((cnd (!(a0.trait == a1.trait)) ((some true)) (bnd (b_sUnifiable a0.head a1.head) fun x3 =>
(some (!x3))))) fun b1 =>
(cnd b1 (
(some true)) (
bnd (b_sMoreSpec a0.head a1.head) fun x5 =>
bnd ((cnd x5 ((cnd a1.default_ ((some true)) (bnd (b_sMoreSpec a1.head a0.head) fun x9 =>
(cnd x9 ((some a0.default_)) ((some false)))))) (bnd (b_sMoreSpec a1.head a0.head) fun x11 =>
(cnd x11 ((some a0.default_)) ((some false)))))) fun b6 =>
(some b6)))
set_option maxHeartbeats 4000000 in
theorem w_sOverlap (a0 : TInstance) (a1 : TInstance) {r : Bool} (h : b_sOverlap a0 a1 = some r) : SpecP Try.prog 8 [.d (eInstance a0), .d (eInstance a1)] [.b r] := by
  obtain ⟨a0_0, a0_1, ⟨a0_2_0, a0_2_1, a0_2_2⟩, a0_3, a0_4, a0_5, ⟨a0_6_0, a0_6_1, a0_6_2⟩, a0_7⟩ := a0
  obtain ⟨a1_0, a1_1, ⟨a1_2_0, a1_2_1, a1_2_2⟩, a1_3, a1_4, a1_5, ⟨a1_6_0, a1_6_1, a1_6_2⟩, a1_7⟩ := a1
  unfold b_sOverlap at h
  refine SpecP_intro Try.func8 rfl (by kernel_rfl) rfl fun A _ => ?_
  refine goL ?_
  obtain ⟨b1, hb1, h⟩ := bnd_s h
  refine VO_join ⟨[(2, .ptr 0 0), (3, .ptr 1 0), (17, .d (.b b1))], [.box [.d (.s a0_0), .d (.sl 1 (eStrs a0_1)), .d (.i .i64 a0_2_0), .d (.s a0_2_1), .d (.sl 3 (eTypes a0_2_2)), .d (.sl 4 (eBounds a0_3)), .d (.b a0_4), .d (.b a0_5), .d (.i .i64 a0_6_0), .d (.s a0_6_1), .d (.sl 3 (eTypes a0_6_2)), .d (.sl 11 (eMethods a0_7))], .box [.d (.s a1_0), .d (.sl 1 (eStrs a1_1)), .d (.i .i64 a1_2_0), .d (.s a1_2_1), .d (.sl 3 (eTypes a1_2_2)), .d (.sl 4 (eBounds a1_3)), .d (.b a1_4), .d (.b a1_5), .d (.i .i64 a1_6_0), .d (.s a1_6_1), .d (.sl 3 (eTypes a1_6_2)), .d (.sl 11 (eMethods a1_7))]], Try.f8.ntmps⟩ ?_ ?_
  · refine VO_case 10 (fun c2 => ?_) (fun c2 => ?_)
    · replace hb1 := cnd_t c2 hb1
      refine goL ?_
      cases hb1
      exact ⟨rfl, ⟨⟨rfl, rfl⟩, ⟨rfl, rfl⟩, ⟨rfl, rfl⟩, trivial⟩, ⟨[], rfl⟩, rfl⟩
    · replace hb1 := cnd_f c2 hb1
      refine goL ?_
      refine VO_b ?_
      obtain ⟨x3, hx3, hb1⟩ := bnd_s hb1
      refine VO_r (QR_call (w_sUnifiable (TType.mk a0_2_0 a0_2_1 a0_2_2) (TType.mk a1_2_0 a1_2_1 a1_2_2) hx3)) ?_
      refine goL ?_
      cases hb1
      exact ⟨rfl, ⟨⟨rfl, rfl⟩, ⟨rfl, rfl⟩, ⟨rfl, rfl⟩, trivial⟩, ⟨[], rfl⟩, rfl⟩
  refine goL ?_
  refine V_cb (fun c4 => ?_) (fun c4 => ?_)
  · replace h := cnd_t c4 h
    refine goL ?_
    refine V_ret ?_
    replace h := Option.some.inj h
    subst h
    exact R_rP
  · replace h := cnd_f c4 h
    refine V_skip ?_
    show V _ _ _ _ _
    refine goL ?_
    obtain ⟨x5, hx5, h⟩ := bnd_s h
    refine VO_r (QR_call (w_sMoreSpec (TType.mk a0_2_0 a0_2_1 a0_2_2) (TType.mk a1_2_0 a1_2_1 a1_2_2) hx5)) ?_
    refine goL ?_
    obtain ⟨b6, hb6, h⟩ := bnd_s h
    refine VO_join ⟨[(4, .d (.b b6))], [.box [.d (.s a0_0), .d (.sl 1 (eStrs a0_1)), .d (.i .i64 a0_2_0), .d (.s a0_2_1), .d (.sl 3 (eTypes a0_2_2)), .d (.sl 4 (eBounds a0_3)), .d (.b a0_4), .d (.b a0_5), .d (.i .i64 a0_6_0), .d (.s a0_6_1), .d (.sl 3 (eTypes a0_6_2)), .d (.sl 11 (eMethods a0_7))], .box [.d (.s a1_0), .d (.sl 1 (eStrs a1_1)), .d (.i .i64 a1_2_0), .d (.s a1_2_1), .d (.sl 3 (eTypes a1_2_2)), .d (.sl 4 (eBounds a1_3)), .d (.b a1_4), .d (.b a1_5), .d (.i .i64 a1_6_0), .d (.s a1_6_1), .d (.sl 3 (eTypes a1_6_2)), .d (.sl 11 (eMethods a1_7))]], Try.f8.ntmps⟩ ?_ ?_
    · refine VO_case 23 (fun c7 => ?_) (fun c7 => ?_)
      · replace hb6 := cnd_t c7 hb6
        refine goL ?_
        refine VO_case 27 (fun c8 => ?_) (fun c8 => ?_)
        · replace hb6 := cnd_t c8 hb6
          refine goL ?_
          cases hb6
          exact ⟨rfl, ⟨⟨rfl, rfl⟩, trivial⟩, ⟨[], rfl⟩, rfl⟩
        · replace hb6 := cnd_f c8 hb6
          refine goL ?_
          refine VO_b ?_
          obtain ⟨x9, hx9, hb6⟩ := bnd_s hb6
          refine VO_r (QR_call (w_sMoreSpec (TType.mk a1_2_0 a1_2_1 a1_2_2) (TType.mk a0_2_0 a0_2_1 a0_2_2) hx9)) ?_
          refine goL ?_
          refine VO_case 33 (fun c10 => ?_) (fun c10 => ?_)
          · replace hb6 := cnd_t c10 hb6
            refine goL ?_
            cases hb6
            exact ⟨rfl, ⟨⟨rfl, rfl⟩, trivial⟩, ⟨[], rfl⟩, rfl⟩
          · replace hb6 := cnd_f c10 hb6
            refine goL ?_
            cases hb6
            exact ⟨rfl, ⟨⟨rfl, rfl⟩, trivial⟩, ⟨[], rfl⟩, rfl⟩
      · replace hb6 := cnd_f c7 hb6
        refine goL ?_
        refine VO_b ?_
        obtain ⟨x11, hx11, hb6⟩ := bnd_s hb6
        refine VO_r (QR_call (w_sMoreSpec (TType.mk a1_2_0 a1_2_1 a1_2_2) (TType.mk a0_2_0 a0_2_1 a0_2_2) hx11)) ?_
        refine goL ?_
        refine VO_case 33 (fun c12 => ?_) (fun c12 => ?_)
        · replace hb6 := cnd_t c12 hb6
          refine goL ?_
          cases hb6
          exact ⟨rfl, ⟨⟨rfl, rfl⟩, trivial⟩, ⟨[], rfl⟩, rfl⟩
        · replace hb6 := cnd_f c12 hb6
          refine goL ?_
          cases hb6
          exact ⟨rfl, ⟨⟨rfl, rfl⟩, trivial⟩, ⟨[], rfl⟩, rfl⟩
    refine goL ?_
    refine V_ret ?_
    replace h := Option.some.inj h
    subst h
    exact R_rP
def b_iOverlap (a0 : TInstance) (a1 : TInstance) : Option (Bool) :=
bnd ((cnd (!(a0.trait == a1.trait)) ((some true)) (bnd (b_iUnifiable a0.head a1.head) fun x3 =>
(some (!x3))))) fun b1 =>
(cnd b1 (
(some true)) (
bnd (b_iMoreSpec a0.head a1.head) fun x5 =>
bnd ((cnd x5 ((cnd a1.default_ ((some true)) (bnd (b_iMoreSpec a1.head a0.head) fun x9 =>
(cnd x9 ((some a0.default_)) ((some false)))))) (bnd (b_iMoreSpec a1.head a0.head) fun x11 =>
(cnd x11 ((some a0.default_)) ((some false)))))) fun b6 =>
(some b6)))
set_option maxHeartbeats 4000000 in
theorem w_iOverlap (a0 : TInstance) (a1 : TInstance) {r : Bool} (h : b_iOverlap a0 a1 = some r) : SpecP Try.prog 7 [.d (eInstance a0), .d (eInstance a1)] [.b r] := by
  obtain ⟨a0_0, a0_1, ⟨a0_2_0, a0_2_1, a0_2_2⟩, a0_3, a0_4, a0_5, ⟨a0_6_0, a0_6_1, a0_6_2⟩, a0_7⟩ := a0
  obtain ⟨a1_0, a1_1, ⟨a1_2_0, a1_2_1, a1_2_2⟩, a1_3, a1_4, a1_5, ⟨a1_6_0, a1_6_1, a1_6_2⟩, a1_7⟩ := a1
  unfold b_iOverlap at h
  refine SpecP_intro Try.func7 rfl (by kernel_rfl) rfl fun A _ => ?_
  refine goL ?_
  obtain ⟨b1, hb1, h⟩ := bnd_s h
  refine VO_join ⟨[(2, .ptr 0 0), (3, .ptr 1 0), (17, .d (.b b1))], [.box [.d (.s a0_0), .d (.sl 1 (eStrs a0_1)), .d (.i .i64 a0_2_0), .d (.s a0_2_1), .d (.sl 3 (eTypes a0_2_2)), .d (.sl 4 (eBounds a0_3)), .d (.b a0_4), .d (.b a0_5), .d (.i .i64 a0_6_0), .d (.s a0_6_1), .d (.sl 3 (eTypes a0_6_2)), .d (.sl 11 (eMethods a0_7))], .box [.d (.s a1_0), .d (.sl 1 (eStrs a1_1)), .d (.i .i64 a1_2_0), .d (.s a1_2_1), .d (.sl 3 (eTypes a1_2_2)), .d (.sl 4 (eBounds a1_3)), .d (.b a1_4), .d (.b a1_5), .d (.i .i64 a1_6_0), .d (.s a1_6_1), .d (.sl 3 (eTypes a1_6_2)), .d (.sl 11 (eMethods a1_7))]], Try.f7.ntmps⟩ ?_ ?_
  · refine VO_case 10 (fun c2 => ?_) (fun c2 => ?_)
    · replace hb1 := cnd_t c2 hb1
      refine goL ?_
      cases hb1
      exact ⟨rfl, ⟨⟨rfl, rfl⟩, ⟨rfl, rfl⟩, ⟨rfl, rfl⟩, trivial⟩, ⟨[], rfl⟩, rfl⟩
    · replace hb1 := cnd_f c2 hb1
      refine goL ?_
      refine VO_b ?_
      obtain ⟨x3, hx3, hb1⟩ := bnd_s hb1
      refine VO_r (QR_call (w_iUnifiable (TType.mk a0_2_0 a0_2_1 a0_2_2) (TType.mk a1_2_0 a1_2_1 a1_2_2) hx3)) ?_
      refine goL ?_
      cases hb1
      exact ⟨rfl, ⟨⟨rfl, rfl⟩, ⟨rfl, rfl⟩, ⟨rfl, rfl⟩, trivial⟩, ⟨[], rfl⟩, rfl⟩
  refine goL ?_
  refine V_cb (fun c4 => ?_) (fun c4 => ?_)
  · replace h := cnd_t c4 h
    refine goL ?_
    refine V_ret ?_
    replace h := Option.some.inj h
    subst h
    exact R_rP
  · replace h := cnd_f c4 h
    refine V_skip ?_
    show V _ _ _ _ _
    refine goL ?_
    obtain ⟨x5, hx5, h⟩ := bnd_s h
    refine VO_r (QR_call (w_iMoreSpec (TType.mk a0_2_0 a0_2_1 a0_2_2) (TType.mk a1_2_0 a1_2_1 a1_2_2) hx5)) ?_
    refine goL ?_
    obtain ⟨b6, hb6, h⟩ := bnd_s h
    refine VO_join ⟨[(4, .d (.b b6))], [.box [.d (.s a0_0), .d (.sl 1 (eStrs a0_1)), .d (.i .i64 a0_2_0), .d (.s a0_2_1), .d (.sl 3 (eTypes a0_2_2)), .d (.sl 4 (eBounds a0_3)), .d (.b a0_4), .d (.b a0_5), .d (.i .i64 a0_6_0), .d (.s a0_6_1), .d (.sl 3 (eTypes a0_6_2)), .d (.sl 11 (eMethods a0_7))], .box [.d (.s a1_0), .d (.sl 1 (eStrs a1_1)), .d (.i .i64 a1_2_0), .d (.s a1_2_1), .d (.sl 3 (eTypes a1_2_2)), .d (.sl 4 (eBounds a1_3)), .d (.b a1_4), .d (.b a1_5), .d (.i .i64 a1_6_0), .d (.s a1_6_1), .d (.sl 3 (eTypes a1_6_2)), .d (.sl 11 (eMethods a1_7))]], Try.f7.ntmps⟩ ?_ ?_
    · refine VO_case 23 (fun c7 => ?_) (fun c7 => ?_)
      · replace hb6 := cnd_t c7 hb6
        refine goL ?_
        refine VO_case 27 (fun c8 => ?_) (fun c8 => ?_)
        · replace hb6 := cnd_t c8 hb6
          refine goL ?_
          cases hb6
          exact ⟨rfl, ⟨⟨rfl, rfl⟩, trivial⟩, ⟨[], rfl⟩, rfl⟩
        · replace hb6 := cnd_f c8 hb6
          refine goL ?_
          refine VO_b ?_
          obtain ⟨x9, hx9, hb6⟩ := bnd_s hb6
          refine VO_r (QR_call (w_iMoreSpec (TType.mk a1_2_0 a1_2_1 a1_2_2) (TType.mk a0_2_0 a0_2_1 a0_2_2) hx9)) ?_
          refine goL ?_
          refine VO_case 33 (fun c10 => ?_) (fun c10 => ?_)
          · replace hb6 := cnd_t c10 hb6
            refine goL ?_
            cases hb6
            exact ⟨rfl, ⟨⟨rfl, rfl⟩, trivial⟩, ⟨[], rfl⟩, rfl⟩
          · replace hb6 := cnd_f c10 hb6
            refine goL ?_
            cases hb6
            exact ⟨rfl, ⟨⟨rfl, rfl⟩, trivial⟩, ⟨[], rfl⟩, rfl⟩
      · replace hb6 := cnd_f c7 hb6
        refine goL ?_
        refine VO_b ?_
        obtain ⟨x11, hx11, hb6⟩ := bnd_s hb6
        refine VO_r (QR_call (w_iMoreSpec (TType.mk a1_2_0 a1_2_1 a1_2_2) (TType.mk a0_2_0 a0_2_1 a0_2_2) hx11)) ?_
        refine goL ?_
        refine VO_case 33 (fun c12 => ?_) (fun c12 => ?_)
        · replace hb6 := cnd_t c12 hb6
          refine goL ?_
          cases hb6
          exact ⟨rfl, ⟨⟨rfl, rfl⟩, trivial⟩, ⟨[], rfl⟩, rfl⟩
        · replace hb6 := cnd_f c12 hb6
          refine goL ?_
          cases hb6
          exact ⟨rfl, ⟨⟨rfl, rfl⟩, trivial⟩, ⟨[], rfl⟩, rfl⟩
    refine goL ?_
    refine V_ret ?_
    replace h := Option.some.inj h
    subst h
    exact R_rP
end Go.Proofs.Ytiaghdodeinecaa
set_option linter.unusedVariables false
set_option linter.unusedSimpArgs false
set_option linter.unusedSectionVars false
namespace Go.Proofs.Ytiaghdodeinecaa
open Go Go.Eng
attribute [local irreducible] V VO VQ VY Quiet QR SpecP SpecO Rng PostP PostO PostG
def b_drawOverlap (a0 : List UInt8) : Option (TInstance × TInstance) :=
lt_ (l1NewT a0) fun x1 =>
bnd (b_l13Inst x1) fun x2 =>
bnd (b_l13Inst x2.2) fun x3 =>
bnd (b_l1Once x3.2 2) fun x4 =>
(cnd x4.1 (
bnd (b_l1Once x4.2 3) fun x6 =>
(cnd x6.1 (
bnd (b_l4Int ) fun x8 =>
gd (bok [(TBinding.mk [97] x8)] ∧ tok x2.1.head) (lt_ (apT [(TBinding.mk [97] x8)] x2.1.head) fun x10 =>
(some (x2.1, (TInstance.mk x2.1.trait x3.1.vars x10 x3.1.where_ x3.1.default_ x3.1.hasAssoc x3.1.assoc x3.1.methods))))) (
(some (x2.1, (TInstance.mk x2.1.trait x3.1.vars x3.1.head x3.1.where_ x3.1.default_ x3.1.hasAssoc x3.1.assoc x3.1.methods)))))) (
bnd (b_l1Once x4.2 3) fun x11 =>
(cnd x11.1 (
bnd (b_l4Int ) fun x13 =>
gd (bok [(TBinding.mk [97] x13)] ∧ tok x2.1.head) (lt_ (apT [(TBinding.mk [97] x13)] x2.1.head) fun x15 =>
(some (x2.1, (TInstance.mk x3.1.trait x3.1.vars x15 x3.1.where_ x3.1.default_ x3.1.hasAssoc x3.1.assoc x3.1.methods))))) (
(some (x2.1, x3.1))))))
set_option maxHeartbeats 4000000 in
theorem w_drawOverlap (a0 : List UInt8) {r : TInstance × TInstance} (h : b_drawOverlap a0 = some r) : SpecP Try.prog 6 [.d (.sl 1 (eBytes a0))] [eInstance r.1, eInstance r.2] := by
  unfold b_drawOverlap at h
  refine SpecP_intro Try.func6 rfl (by kernel_rfl) rfl fun A _ => ?_
  refine goL ?_
  obtain ⟨x1, hx1, h⟩ := lt_x h
  obtain ⟨x1_0, x1_1, x1_2⟩ := x1
  have sx1 := t_l1New a0
  rw [hx1] at sx1
  refine VO_cG [] (sx1) ?_
  rintro _ _ ⟨rfl, rfl⟩
  show VO _ _ _ _ ⟨(_, .ptr 2 0) :: _, [.box [.d (.s []), .nilsl, .d (.i .i64 0), .d (.s []), .nilsl, .nilsl, .d (.b false), .d (.b false), .d (.i .i64 0), .d (.s []), .nilsl, .nilsl], .box [.d (.s []), .nilsl, .d (.i .i64 0), .d (.s []), .nilsl, .nilsl, .d (.b false), .d (.b false), .d (.i .i64 0), .d (.s []), .nilsl, .nilsl], .box [.d (.sl 1 (eBytes x1_0)), .d (.i .i64 x1_1), .d (.i .i64 x1_2)]], _⟩ _
  refine goL ?_
  obtain ⟨x2, hx2, h⟩ := bnd_s h
  obtain ⟨⟨x2_0_0, x2_0_1, ⟨x2_0_2_0, x2_0_2_1, x2_0_2_2⟩, x2_0_3, x2_0_4, x2_0_5, ⟨x2_0_6_0, x2_0_6_1, x2_0_6_2⟩, x2_0_7⟩, ⟨x2_1_0, x2_1_1, x2_1_2⟩⟩ := x2
  refine VO_cG [2] (w_l13Inst (Tl1Cur.mk x1_0 x1_1 x1_2) hx2) ?_
  rintro _ _ ⟨rfl, rfl⟩
  show VO _ _ _ _ ⟨(_, .d (.st [.s x2_0_0, .sl 1 (eStrs x2_0_1), .st [.i .i64 x2_0_2_0, .s x2_0_2_1, .sl 3 (eTypes x2_0_2_2)], .sl 4 (eBounds x2_0_3), .b x2_0_4, .b x2_0_5, .st [.i .i64 x2_0_6_0, .s x2_0_6_1, .sl 3 (eTypes x2_0_6_2)], .sl 11 (eMethods x2_0_7)])) :: _, [.box [.d (.s []), .nilsl, .d (.i .i64 0), .d (.s []), .nilsl, .nilsl, .d (.b false), .d (.b false), .d (.i .i64 0), .d (.s []), .nilsl, .nilsl], .box [.d (.s []), .nilsl, .d (.i .i64 0), .d (.s []), .nilsl, .nilsl, .d (.b false), .d (.b false), .d (.i .i64 0), .d (.s []), .nilsl, .nilsl], .box [.d (.sl 1 (eBytes x2_1_0)), .d (.i .i64 x2_1_1), .d (.i .i64 x2_1_2)]], _⟩ _
  refine goL ?_
  obtain ⟨x3, hx3, h⟩ := bnd_s h
  obtain ⟨⟨x3_0_0, x3_0_1, ⟨x3_0_2_0, x3_0_2_1, x3_0_2_2⟩, x3_0_3, x3_0_4, x3_0_5, ⟨x3_0_6_0, x3_0_6_1, x3_0_6_2⟩, x3_0_7⟩, ⟨x3_1_0, x3_1_1, x3_1_2⟩⟩ := x3
  refine VO_cG [2] (w_l13Inst (Tl1Cur.mk x2_1_0 x2_1_1 x2_1_2) hx3) ?_
  rintro _ _ ⟨rfl, rfl⟩
  show VO _ _ _ _ ⟨(_, .d (.st [.s x3_0_0, .sl 1 (eStrs x3_0_1), .st [.i .i64 x3_0_2_0, .s x3_0_2_1, .sl 3 (eTypes x3_0_2_2)], .sl 4 (eBounds x3_0_3), .b x3_0_4, .b x3_0_5, .st [.i .i64 x3_0_6_0, .s x3_0_6_1, .sl 3 (eTypes x3_0_6_2)], .sl 11 (eMethods x3_0_7)])) :: _, [.box [.d (.s []), .nilsl, .d (.i .i64 0), .d (.s []), .nilsl, .nilsl, .d (.b false), .d (.b false), .d (.i .i64 0), .d (.s []), .nilsl, .nilsl], .box [.d (.s []), .nilsl, .d (.i .i64 0), .d (.s []), .nilsl, .nilsl, .d (.b false), .d (.b false), .d (.i .i64 0), .d (.s []), .nilsl, .nilsl], .box [.d (.sl 1 (eBytes x3_1_0)), .d (.i .i64 x3_1_1), .d (.i .i64 x3_1_2)], .box [.d (.s x2_0_0), .d (.sl 1 (eStrs x2_0_1)), .d (.i .i64 x2_0_2_0), .d (.s x2_0_2_1), .d (.sl 3 (eTypes x2_0_2_2)), .d (.sl 4 (eBounds x2_0_3)), .d (.b x2_0_4), .d (.b x2_0_5), .d (.i .i64 x2_0_6_0), .d (.s x2_0_6_1), .d (.sl 3 (eTypes x2_0_6_2)), .d (.sl 11 (eMethods x2_0_7))]], _⟩ _
  refine goL ?_
  obtain ⟨x4, hx4, h⟩ := bnd_s h
  obtain ⟨x4_0, ⟨x4_1_0, x4_1_1, x4_1_2⟩⟩ := x4
  refine VO_cG [2] (w_l1Once (Tl1Cur.mk x3_1_0 x3_1_1 x3_1_2) 2 hx4) ?_
  rintro _ _ ⟨rfl, rfl⟩
  show VO _ _ _ _ ⟨(_, .d (.b x4_0)) :: _, [.box [.d (.s []), .nilsl, .d (.i .i64 0), .d (.s []), .nilsl, .nilsl, .d (.b false), .d (.b false), .d (.i .i64 0), .d (.s []), .nilsl, .nilsl], .box [.d (.s []), .nilsl, .d (.i .i64 0), .d (.s []), .nilsl, .nilsl, .d (.b false), .d (.b false), .d (.i .i64 0), .d (.s []), .nilsl, .nilsl], .box [.d (.sl 1 (eBytes x4_1_0)), .d (.i .i64 x4_1_1), .d (.i .i64 x4_1_2)], .box [.d (.s x2_0_0), .d (.sl 1 (eStrs x2_0_1)), .d (.i .i64 x2_0_2_0), .d (.s x2_0_2_1), .d (.sl 3 (eTypes x2_0_2_2)), .d (.sl 4 (eBounds x2_0_3)), .d (.b x2_0_4), .d (.b x2_0_5), .d (.i .i64 x2_0_6_0), .d (.s x2_0_6_1), .d (.sl 3 (eTypes x2_0_6_2)), .d (.sl 11 (eMethods x2_0_7))], .box [.d (.s x3_0_0), .d (.sl 1 (eStrs x3_0_1)), .d (.i .i64 x3_0_2_0), .d (.s x3_0_2_1), .d (.sl 3 (eTypes x3_0_2_2)), .d (.sl 4 (eBounds x3_0_3)), .d (.b x3_0_4), .d (.b x3_0_5), .d (.i .i64 x3_0_6_0), .d (.s x3_0_6_1), .d (.sl 3 (eTypes x3_0_6_2)), .d (.sl 11 (eMethods x3_0_7))]], _⟩ _
  refine goL ?_
  refine V_cb (fun c5 => ?_) (fun c5 => ?_)
  · replace h := cnd_t c5 h
    refine goL ?_
    obtain ⟨x6, hx6, h⟩ := bnd_s h
    obtain ⟨x6_0, ⟨x6_1_0, x6_1_1, x6_1_2⟩⟩ := x6
    refine VO_cG [2] (w_l1Once (Tl1Cur.mk x4_1_0 x4_1_1 x4_1_2) 3 hx6) ?_
    rintro _ _ ⟨rfl, rfl⟩
    show VO _ _ _ _ ⟨(_, .d (.b x6_0)) :: _, [.box [.d (.s []), .nilsl, .d (.i .i64 0), .d (.s []), .nilsl, .nilsl, .d (.b false), .d (.b false), .d (.i .i64 0), .d (.s []), .nilsl, .nilsl], .box [.d (.s []), .nilsl, .d (.i .i64 0), .d (.s []), .nilsl, .nilsl, .d (.b false), .d (.b false), .d (.i .i64 0), .d (.s []), .nilsl, .nilsl], .box [.d (.sl 1 (eBytes x6_1_0)), .d (.i .i64 x6_1_1), .d (.i .i64 x6_1_2)], .box [.d (.s x2_0_0), .d (.sl 1 (eStrs x2_0_1)), .d (.i .i64 x2_0_2_0), .d (.s x2_0_2_1), .d (.sl 3 (eTypes x2_0_2_2)), .d (.sl 4 (eBounds x2_0_3)), .d (.b x2_0_4), .d (.b x2_0_5), .d (.i .i64 x2_0_6_0), .d (.s x2_0_6_1), .d (.sl 3 (eTypes x2_0_6_2)), .d (.sl 11 (eMethods x2_0_7))], .box [.d (.s x2_0_0), .d (.sl 1 (eStrs x3_0_1)), .d (.i .i64 x3_0_2_0), .d (.s x3_0_2_1), .d (.sl 3 (eTypes x3_0_2_2)), .d (.sl 4 (eBounds x3_0_3)), .d (.b x3_0_4), .d (.b x3_0_5), .d (.i .i64 x3_0_6_0), .d (.s x3_0_6_1), .d (.sl 3 (eTypes x3_0_6_2)), .d (.sl 11 (eMethods x3_0_7))]], _⟩ _
    refine goL ?_
    refine V_cb (fun c7 => ?_) (fun c7 => ?_)
    · replace h := cnd_t c7 h
      refine V_drawX (P := Try.prog) Mix.h [(0, true), (1, true), (3, true), (4, true), (2, false), (5, false), (6, true), (7, false)] (by kernel_rfl) ?_
      obtain ⟨x8, hx8, h⟩ := bnd_s h
      obtain ⟨x8_0, x8_1, x8_2⟩ := x8
      refine VY_ri rfl (QR_call (w_l4Int  hx8)) ?_
      refine goY ?_
      refine VY_lb (T := 38) (us := eBindings [(TBinding.mk [97] (TType.mk x8_0 x8_1 x8_2))]) ?_
      obtain ⟨g9, h⟩ := gd_s h
      obtain ⟨x10, hx10, h⟩ := lt_x h
      obtain ⟨x10_0, x10_1, x10_2⟩ := x10
      have sx10 := t_sApply [(TBinding.mk [97] (TType.mk x8_0 x8_1 x8_2))] (TType.mk x2_0_2_0 x2_0_2_1 x2_0_2_2) g9
      rw [hx10] at sx10
      refine VY_co (sx10) ?_
      refine goY ?_
      refine VY_nil ?_
      refine goNL ?_
      refine V_seq_drawTJ (P := Try.prog) Mix.h (.h 0 (.h 1 (.h 2 (.h 3 .nil .nil) .nil) (.h 2 (.h 1 (.h 3 .nil .nil) .nil) .nil)) (.h 1 (.h 0 (.h 2 (.h 3 .nil .nil) .nil) .nil) .nil)) ⟨[(2, .ptr 0 0), (3, .ptr 1 0)], [.box [.d (.s x2_0_0), .d (.sl 1 (eStrs x2_0_1)), .d (.i .i64 x2_0_2_0), .d (.s x2_0_2_1), .d (.sl 3 (eTypes x2_0_2_2)), .d (.sl 4 (eBounds x2_0_3)), .d (.b x2_0_4), .d (.b x2_0_5), .d (.i .i64 x2_0_6_0), .d (.s x2_0_6_1), .d (.sl 3 (eTypes x2_0_6_2)), .d (.sl 11 (eMethods x2_0_7))], .box [.d (.s x2_0_0), .d (.sl 1 (eStrs x3_0_1)), .d (.i .i64 x10_0), .d (.s x10_1), .sl 6 0, .d (.sl 4 (eBounds x3_0_3)), .d (.b x3_0_4), .d (.b x3_0_5), .d (.i .i64 x3_0_6_0), .d (.s x3_0_6_1), .d (.sl 3 (eTypes x3_0_6_2)), .d (.sl 11 (eMethods x3_0_7))], .box [.d (.sl 1 (eBytes x6_1_0)), .d (.i .i64 x6_1_1), .d (.i .i64 x6_1_2)], .box [.d (.s x2_0_0), .d (.sl 1 (eStrs x2_0_1)), .d (.i .i64 x2_0_2_0), .d (.s x2_0_2_1), .d (.sl 3 (eTypes x2_0_2_2)), .d (.sl 4 (eBounds x2_0_3)), .d (.b x2_0_4), .d (.b x2_0_5), .d (.i .i64 x2_0_6_0), .d (.s x2_0_6_1), .d (.sl 3 (eTypes x2_0_6_2)), .d (.sl 11 (eMethods x2_0_7))], .box [.d (.s x2_0_0), .d (.sl 1 (eStrs x3_0_1)), .d (.i .i64 x10_0), .d (.s x10_1), .sl 6 0, .d (.sl 4 (eBounds x3_0_3)), .d (.b x3_0_4), .d (.b x3_0_5), .d (.i .i64 x3_0_6_0), .d (.s x3_0_6_1), .d (.sl 3 (eTypes x3_0_6_2)), .d (.sl 11 (eMethods x3_0_7))], .arr 37 4 0 (eBindings [(TBinding.mk [97] (TType.mk x8_0 x8_1 x8_2))]), .own 27 3 0 (eTypes x10_2)], Try.f6.ntmps⟩ (by kernel_rfl) ?_ ?_
      · refine VT_h (VY_dh VY_e) ?_ ?_
        · refine VT_h (VY_dh VY_e) ?_ ?_
          · refine goT ?_
            refine VT_nil ?_
            exact R_pk 0 [0, 1, 2, 3, 4, 5, 6]
          refine goT ?_
          refine VT_h1 (VY_dh VY_e) ?_
          refine goT ?_
          refine VT_nil ?_
          exact R_pk 0 [0, 1, 2, 3, 4, 5, 6]
        refine VT_h1 (VY_dh VY_e) ?_
        refine VT_h1 (VY_dh VY_e) ?_
        refine goT ?_
        refine VT_nil ?_
        exact R_pk 0 [0, 1, 2, 3, 4, 5, 6]
      refine goL ?_
      refine V_freezeO 6 rfl rfl ?_
      refine V_ret ?_
      replace h := Option.some.inj h
      subst h
      exact R_rP
    · replace h := cnd_f c7 h
      refine V_skip ?_
      show V _ _ _ _ _
      refine V_seq_drawTJ (P := Try.prog) Mix.h (.h 0 (.h 1 (.h 2 (.h 3 .nil .nil) .nil) (.h 2 (.h 1 (.h 3 .nil .nil) .nil) .nil)) (.h 1 (.h 0 (.h 2 (.h 3 .nil .nil) .nil) .nil) .nil)) ⟨[(2, .ptr 0 0), (3, .ptr 1 0)], [.box [.d (.s x2_0_0), .d (.sl 1 (eStrs x2_0_1)), .d (.i .i64 x2_0_2_0), .d (.s x2_0_2_1), .d (.sl 3 (eTypes x2_0_2_2)), .d (.sl 4 (eBounds x2_0_3)), .d (.b x2_0_4), .d (.b x2_0_5), .d (.i .i64 x2_0_6_0), .d (.s x2_0_6_1), .d (.sl 3 (eTypes x2_0_6_2)), .d (.sl 11 (eMethods x2_0_7))], .box [.d (.s x2_0_0), .d (.sl 1 (eStrs x3_0_1)), .d (.i .i64 x3_0_2_0), .d (.s x3_0_2_1), .d (.sl 3 (eTypes x3_0_2_2)), .d (.sl 4 (eBounds x3_0_3)), .d (.b x3_0_4), .d (.b x3_0_5), .d (.i .i64 x3_0_6_0), .d (.s x3_0_6_1), .d (.sl 3 (eTypes x3_0_6_2)), .d (.sl 11 (eMethods x3_0_7))], .box [.d (.sl 1 (eBytes x6_1_0)), .d (.i .i64 x6_1_1), .d (.i .i64 x6_1_2)], .box [.d (.s x2_0_0), .d (.sl 1 (eStrs x2_0_1)), .d (.i .i64 x2_0_2_0), .d (.s x2_0_2_1), .d (.sl 3 (eTypes x2_0_2_2)), .d (.sl 4 (eBounds x2_0_3)), .d (.b x2_0_4), .d (.b x2_0_5), .d (.i .i64 x2_0_6_0), .d (.s x2_0_6_1), .d (.sl 3 (eTypes x2_0_6_2)), .d (.sl 11 (eMethods x2_0_7))], .box [.d (.s x2_0_0), .d (.sl 1 (eStrs x3_0_1)), .d (.i .i64 x3_0_2_0), .d (.s x3_0_2_1), .d (.sl 3 (eTypes x3_0_2_2)), .d (.sl 4 (eBounds x3_0_3)), .d (.b x3_0_4), .d (.b x3_0_5), .d (.i .i64 x3_0_6_0), .d (.s x3_0_6_1), .d (.sl 3 (eTypes x3_0_6_2)), .d (.sl 11 (eMethods x3_0_7))]], Try.f6.ntmps⟩ (by kernel_rfl) ?_ ?_
      · refine VT_h (VY_dh VY_e) ?_ ?_
        · refine VT_h (VY_dh VY_e) ?_ ?_
          · refine goT ?_
            refine VT_nil ?_
            exact R_pk 0 [0, 1, 2, 3, 4]
          refine goT ?_
          refine VT_h1 (VY_dh VY_e) ?_
          refine goT ?_
          refine VT_nil ?_
          exact R_pk 0 [0, 1, 2, 3, 4]
        refine VT_h1 (VY_dh VY_e) ?_
        refine VT_h1 (VY_dh VY_e) ?_
        refine goT ?_
        refine VT_nil ?_
        exact R_pk 0 [0, 1, 2, 3, 4]
      refine goL ?_
      refine V_ret ?_
      replace h := Option.some.inj h
      subst h
      exact R_rP
  · replace h := cnd_f c5 h
    refine V_skip ?_
    show V _ _ _ _ _
    refine goL ?_
    obtain ⟨x11, hx11, h⟩ := bnd_s h
    obtain ⟨x11_0, ⟨x11_1_0, x11_1_1, x11_1_2⟩⟩ := x11
    refine VO_cG [2] (w_l1Once (Tl1Cur.mk x4_1_0 x4_1_1 x4_1_2) 3 hx11) ?_
    rintro _ _ ⟨rfl, rfl⟩
    show VO _ _ _ _ ⟨(_, .d (.b x11_0)) :: _, [.box [.d (.s []), .nilsl, .d (.i .i64 0), .d (.s []), .nilsl, .nilsl, .d (.b false), .d (.b false), .d (.i .i64 0), .d (.s []), .nilsl, .nilsl], .box [.d (.s []), .nilsl, .d (.i .i64 0), .d (.s []), .nilsl, .nilsl, .d (.b false), .d (.b false), .d (.i .i64 0), .d (.s []), .nilsl, .nilsl], .box [.d (.sl 1 (eBytes x11_1_0)), .d (.i .i64 x11_1_1), .d (.i .i64 x11_1_2)], .box [.d (.s x2_0_0), .d (.sl 1 (eStrs x2_0_1)), .d (.i .i64 x2_0_2_0), .d (.s x2_0_2_1), .d (.sl 3 (eTypes x2_0_2_2)), .d (.sl 4 (eBounds x2_0_3)), .d (.b x2_0_4), .d (.b x2_0_5), .d (.i .i64 x2_0_6_0), .d (.s x2_0_6_1), .d (.sl 3 (eTypes x2_0_6_2)), .d (.sl 11 (eMethods x2_0_7))], .box [.d (.s x3_0_0), .d (.sl 1 (eStrs x3_0_1)), .d (.i .i64 x3_0_2_0), .d (.s x3_0_2_1), .d (.sl 3 (eTypes x3_0_2_2)), .d (.sl 4 (eBounds x3_0_3)), .d (.b x3_0_4), .d (.b x3_0_5), .d (.i .i64 x3_0_6_0), .d (.s x3_0_6_1), .d (.sl 3 (eTypes x3_0_6_2)), .d (.sl 11 (eMethods x3_0_7))]], _⟩ _
    refine goL ?_
    refine V_cb (fun c12 => ?_) (fun c12 => ?_)
    · replace h := cnd_t c12 h
      refine V_drawX (P := Try.prog) Mix.h [(0, true), (1, true), (3, true), (4, true), (2, false), (5, false), (6, true), (7, false)] (by kernel_rfl) ?_
      obtain ⟨x13, hx13, h⟩ := bnd_s h
      obtain ⟨x13_0, x13_1, x13_2⟩ := x13
      refine VY_ri rfl (QR_call (w_l4Int  hx13)) ?_
      refine goY ?_
      refine VY_lb (T := 38) (us := eBindings [(TBinding.mk [97] (TType.mk x13_0 x13_1 x13_2))]) ?_
      obtain ⟨g14, h⟩ := gd_s h
      obtain ⟨x15, hx15, h⟩ := lt_x h
      obtain ⟨x15_0, x15_1, x15_2⟩ := x15
      have sx15 := t_sApply [(TBinding.mk [97] (TType.mk x13_0 x13_1 x13_2))] (TType.mk x2_0_2_0 x2_0_2_1 x2_0_2_2) g14
      rw [hx15] at sx15
      refine VY_co (sx15) ?_
      refine goY ?_
      refine VY_nil ?_
      refine goNL ?_
      refine V_seq_drawTJ (P := Try.prog) Mix.h (.h 0 (.h 1 (.h 2 (.h 3 .nil .nil) .nil) (.h 2 (.h 1 (.h 3 .nil .nil) .nil) .nil)) (.h 1 (.h 0 (.h 2 (.h 3 .nil .nil) .nil) .nil) .nil)) ⟨[(2, .ptr 0 0), (3, .ptr 1 0)], [.box [.d (.s x2_0_0), .d (.sl 1 (eStrs x2_0_1)), .d (.i .i64 x2_0_2_0), .d (.s x2_0_2_1), .d (.sl 3 (eTypes x2_0_2_2)), .d (.sl 4 (eBounds x2_0_3)), .d (.b x2_0_4), .d (.b x2_0_5), .d (.i .i64 x2_0_6_0), .d (.s x2_0_6_1), .d (.sl 3 (eTypes x2_0_6_2)), .d (.sl 11 (eMethods x2_0_7))], .box [.d (.s x3_0_0), .d (.sl 1 (eStrs x3_0_1)), .d (.i .i64 x15_0), .d (.s x15_1), .sl 6 0, .d (.sl 4 (eBounds x3_0_3)), .d (.b x3_0_4), .d (.b x3_0_5), .d (.i .i64 x3_0_6_0), .d (.s x3_0_6_1), .d (.sl 3 (eTypes x3_0_6_2)), .d (.sl 11 (eMethods x3_0_7))], .box [.d (.sl 1 (eBytes x11_1_0)), .d (.i .i64 x11_1_1), .d (.i .i64 x11_1_2)], .box [.d (.s x2_0_0), .d (.sl 1 (eStrs x2_0_1)), .d (.i .i64 x2_0_2_0), .d (.s x2_0_2_1), .d (.sl 3 (eTypes x2_0_2_2)), .d (.sl 4 (eBounds x2_0_3)), .d (.b x2_0_4), .d (.b x2_0_5), .d (.i .i64 x2_0_6_0), .d (.s x2_0_6_1), .d (.sl 3 (eTypes x2_0_6_2)), .d (.sl 11 (eMethods x2_0_7))], .box [.d (.s x3_0_0), .d (.sl 1 (eStrs x3_0_1)), .d (.i .i64 x15_0), .d (.s x15_1), .sl 6 0, .d (.sl 4 (eBounds x3_0_3)), .d (.b x3_0_4), .d (.b x3_0_5), .d (.i .i64 x3_0_6_0), .d (.s x3_0_6_1), .d (.sl 3 (eTypes x3_0_6_2)), .d (.sl 11 (eMethods x3_0_7))], .arr 37 4 0 (eBindings [(TBinding.mk [97] (TType.mk x13_0 x13_1 x13_2))]), .own 27 3 0 (eTypes x15_2)], Try.f6.ntmps⟩ (by kernel_rfl) ?_ ?_
      · refine VT_h (VY_dh VY_e) ?_ ?_
        · refine VT_h (VY_dh VY_e) ?_ ?_
          · refine goT ?_
            refine VT_nil ?_
            exact R_pk 0 [0, 1, 2, 3, 4, 5, 6]
          refine goT ?_
          refine VT_h1 (VY_dh VY_e) ?_
          refine goT ?_
          refine VT_nil ?_
          exact R_pk 0 [0, 1, 2, 3, 4, 5, 6]
        refine VT_h1 (VY_dh VY_e) ?_
        refine VT_h1 (VY_dh VY_e) ?_
        refine goT ?_
        refine VT_nil ?_
        exact R_pk 0 [0, 1, 2, 3, 4, 5, 6]
      refine goL ?_
      refine V_freezeO 6 rfl rfl ?_
      refine V_ret ?_
      replace h := Option.some.inj h
      subst h
      exact R_rP
    · replace h := cnd_f c12 h
      refine V_skip ?_
      show V _ _ _ _ _
      refine V_seq_drawTJ (P := Try.prog) Mix.h (.h 0 (.h 1 (.h 2 (.h 3 .nil .nil) .nil) (.h 2 (.h 1 (.h 3 .nil .nil) .nil) .nil)) (.h 1 (.h 0 (.h 2 (.h 3 .nil .nil) .nil) .nil) .nil)) ⟨[(2, .ptr 0 0), (3, .ptr 1 0)], [.box [.d (.s x2_0_0), .d (.sl 1 (eStrs x2_0_1)), .d (.i .i64 x2_0_2_0), .d (.s x2_0_2_1), .d (.sl 3 (eTypes x2_0_2_2)), .d (.sl 4 (eBounds x2_0_3)), .d (.b x2_0_4), .d (.b x2_0_5), .d (.i .i64 x2_0_6_0), .d (.s x2_0_6_1), .d (.sl 3 (eTypes x2_0_6_2)), .d (.sl 11 (eMethods x2_0_7))], .box [.d (.s x3_0_0), .d (.sl 1 (eStrs x3_0_1)), .d (.i .i64 x3_0_2_0), .d (.s x3_0_2_1), .d (.sl 3 (eTypes x3_0_2_2)), .d (.sl 4 (eBounds x3_0_3)), .d (.b x3_0_4), .d (.b x3_0_5), .d (.i .i64 x3_0_6_0), .d (.s x3_0_6_1), .d (.sl 3 (eTypes x3_0_6_2)), .d (.sl 11 (eMethods x3_0_7))], .box [.d (.sl 1 (eBytes x11_1_0)), .d (.i .i64 x11_1_1), .d (.i .i64 x11_1_2)], .box [.d (.s x2_0_0), .d (.sl 1 (eStrs x2_0_1)), .d (.i .i64 x2_0_2_0), .d (.s x2_0_2_1), .d (.sl 3 (eTypes x2_0_2_2)), .d (.sl 4 (eBounds x2_0_3)), .d (.b x2_0_4), .d (.b x2_0_5), .d (.i .i64 x2_0_6_0), .d (.s x2_0_6_1), .d (.sl 3 (eTypes x2_0_6_2)), .d (.sl 11 (eMethods x2_0_7))], .box [.d (.s x3_0_0), .d (.sl 1 (eStrs x3_0_1)), .d (.i .i64 x3_0_2_0), .d (.s x3_0_2_1), .d (.sl 3 (eTypes x3_0_2_2)), .d (.sl 4 (eBounds x3_0_3)), .d (.b x3_0_4), .d (.b x3_0_5), .d (.i .i64 x3_0_6_0), .d (.s x3_0_6_1), .d (.sl 3 (eTypes x3_0_6_2)), .d (.sl 11 (eMethods x3_0_7))]], Try.f6.ntmps⟩ (by kernel_rfl) ?_ ?_
      · refine VT_h (VY_dh VY_e) ?_ ?_
        · refine VT_h (VY_dh VY_e) ?_ ?_
          · refine goT ?_
            refine VT_nil ?_
            exact R_pk 0 [0, 1, 2, 3, 4]
          refine goT ?_
          refine VT_h1 (VY_dh VY_e) ?_
          refine goT ?_
          refine VT_nil ?_
          exact R_pk 0 [0, 1, 2, 3, 4]
        refine VT_h1 (VY_dh VY_e) ?_
        refine VT_h1 (VY_dh VY_e) ?_
        refine goT ?_
        refine VT_nil ?_
        exact R_pk 0 [0, 1, 2, 3, 4]
      refine goL ?_
      refine V_ret ?_
      replace h := Option.some.inj h
      subst h
      exact R_rP
def b_FnOverlap (a0 : List UInt8) : Option (Bool) :=
(cnd (b_big a0) (
(some true)) (
bnd (b_drawOverlap a0) fun x2 =>
bnd (b_iOverlap x2.1 x2.2) fun x3 =>
bnd (b_sOverlap x2.1 x2.2) fun x4 =>
bnd ((cnd (!(x3 == x4)) ((some true)) (bnd (b_iOverlap x2.2 x2.1) fun x7 =>
(some (!(x7 == x3)))))) fun b5 =>
(cnd b5 (
(some false)) (
gd (bok [(TBinding.mk [97] (TType.mk 2 [105, 110, 116] [])), (TBinding.mk [98] (TType.mk 2 [105, 110, 116] []))] ∧ tok x2.1.head) (lt_ (apT [(TBinding.mk [97] (TType.mk 2 [105, 110, 116] [])), (TBinding.mk [98] (TType.mk 2 [105, 110, 116] []))] x2.1.head) fun x10 =>
bnd ((cnd (!x3) ((some true)) ((cnd (!(x2.1.trait == x2.2.trait)) ((some true)) (bnd (b_sMatches x2.1.head x10) fun x14 =>
(cnd (!x14) ((some true)) (bnd (b_sMatches x2.2.head x10) fun x16 =>
(some (!x16))))))))) fun b11 =>
(cnd b11 (
(some true)) (
bnd (b_iMoreSpec x2.1.head x2.2.head) fun x18 =>
bnd ((cnd x18 ((cnd x2.2.default_ ((some true)) (bnd (b_iMoreSpec x2.2.head x2.1.head) fun x22 =>
(cnd x22 ((some x2.1.default_)) ((some false)))))) (bnd (b_iMoreSpec x2.2.head x2.1.head) fun x24 =>
(cnd x24 ((some x2.1.default_)) ((some false)))))) fun b19 =>
(some b19))))))))
set_option maxHeartbeats 4000000 in
theorem w_FnOverlap (a0 : List UInt8) {r : Bool} (h : b_FnOverlap a0 = some r) : SpecP Try.prog 3 [.d (.sl 1 (eBytes a0))] [.b r] := by
  unfold b_FnOverlap at h
  refine SpecP_intro Try.func3 rfl (by kernel_rfl) rfl fun A _ => ?_
  refine goL ?_
  refine VO_r (QR_call (w_big a0)) ?_
  refine goL ?_
  refine V_cb (fun c1 => ?_) (fun c1 => ?_)
  · replace h := cnd_t c1 h
    refine goL ?_
    refine V_ret ?_
    replace h := Option.some.inj h
    subst h
    exact R_rP
  · replace h := cnd_f c1 h
    refine V_skip ?_
    show V _ _ _ _ _
    refine goL ?_
    obtain ⟨x2, hx2, h⟩ := bnd_s h
    obtain ⟨⟨x2_0_0, x2_0_1, ⟨x2_0_2_0, x2_0_2_1, x2_0_2_2⟩, x2_0_3, x2_0_4, x2_0_5, ⟨x2_0_6_0, x2_0_6_1, x2_0_6_2⟩, x2_0_7⟩, ⟨x2_1_0, x2_1_1, ⟨x2_1_2_0, x2_1_2_1, x2_1_2_2⟩, x2_1_3, x2_1_4, x2_1_5, ⟨x2_1_6_0, x2_1_6_1, x2_1_6_2⟩, x2_1_7⟩⟩ := x2
    refine VO_r (QR_call (w_drawOverlap a0 hx2)) ?_
    refine goL ?_
    obtain ⟨x3, hx3, h⟩ := bnd_s h
    refine VO_r (QR_call (w_iOverlap (TInstance.mk x2_0_0 x2_0_1 (TType.mk x2_0_2_0 x2_0_2_1 x2_0_2_2) x2_0_3 x2_0_4 x2_0_5 (TType.mk x2_0_6_0 x2_0_6_1 x2_0_6_2) x2_0_7) (TInstance.mk x2_1_0 x2_1_1 (TType.mk x2_1_2_0 x2_1_2_1 x2_1_2_2) x2_1_3 x2_1_4 x2_1_5 (TType.mk x2_1_6_0 x2_1_6_1 x2_1_6_2) x2_1_7) hx3)) ?_
    refine goL ?_
    obtain ⟨x4, hx4, h⟩ := bnd_s h
    refine VO_r (QR_call (w_sOverlap (TInstance.mk x2_0_0 x2_0_1 (TType.mk x2_0_2_0 x2_0_2_1 x2_0_2_2) x2_0_3 x2_0_4 x2_0_5 (TType.mk x2_0_6_0 x2_0_6_1 x2_0_6_2) x2_0_7) (TInstance.mk x2_1_0 x2_1_1 (TType.mk x2_1_2_0 x2_1_2_1 x2_1_2_2) x2_1_3 x2_1_4 x2_1_5 (TType.mk x2_1_6_0 x2_1_6_1 x2_1_6_2) x2_1_7) hx4)) ?_
    refine goL ?_
    obtain ⟨b5, hb5, h⟩ := bnd_s h
    refine VO_join ⟨[(3, .ptr 0 0), (4, .ptr 1 0), (5, .d (.b x3)), (28, .d (.b b5))], [.box [.d (.s x2_0_0), .d (.sl 1 (eStrs x2_0_1)), .d (.i .i64 x2_0_2_0), .d (.s x2_0_2_1), .d (.sl 3 (eTypes x2_0_2_2)), .d (.sl 4 (eBounds x2_0_3)), .d (.b x2_0_4), .d (.b x2_0_5), .d (.i .i64 x2_0_6_0), .d (.s x2_0_6_1), .d (.sl 3 (eTypes x2_0_6_2)), .d (.sl 11 (eMethods x2_0_7))], .box [.d (.s x2_1_0), .d (.sl 1 (eStrs x2_1_1)), .d (.i .i64 x2_1_2_0), .d (.s x2_1_2_1), .d (.sl 3 (eTypes x2_1_2_2)), .d (.sl 4 (eBounds x2_1_3)), .d (.b x2_1_4), .d (.b x2_1_5), .d (.i .i64 x2_1_6_0), .d (.s x2_1_6_1), .d (.sl 3 (eTypes x2_1_6_2)), .d (.sl 11 (eMethods x2_1_7))]], Try.f3.ntmps⟩ ?_ ?_
    · refine VO_case 22 (fun c6 => ?_) (fun c6 => ?_)
      · replace hb5 := cnd_t c6 hb5
        refine goL ?_
        cases hb5
        exact ⟨rfl, ⟨⟨rfl, rfl⟩, ⟨rfl, rfl⟩, ⟨rfl, rfl⟩, ⟨rfl, rfl⟩, trivial⟩, ⟨[], rfl⟩, rfl⟩
      · replace hb5 := cnd_f c6 hb5
        refine goL ?_
        refine VO_b ?_
        obtain ⟨x7, hx7, hb5⟩ := bnd_s hb5
        refine VO_r (QR_call (w_iOverlap (TInstance.mk x2_1_0 x2_1_1 (TType.mk x2_1_2_0 x2_1_2_1 x2_1_2_2) x2_1_3 x2_1_4 x2_1_5 (TType.mk x2_1_6_0 x2_1_6_1 x2_1_6_2) x2_1_7) (TInstance.mk x2_0_0 x2_0_1 (TType.mk x2_0_2_0 x2_0_2_1 x2_0_2_2) x2_0_3 x2_0_4 x2_0_5 (TType.mk x2_0_6_0 x2_0_6_1 x2_0_6_2) x2_0_7) hx7)) ?_
        refine goL ?_
        cases hb5
        exact ⟨rfl, ⟨⟨rfl, rfl⟩, ⟨rfl, rfl⟩, ⟨rfl, rfl⟩, ⟨rfl, rfl⟩, trivial⟩, ⟨[], rfl⟩, rfl⟩
    refine goL ?_
    refine V_cb (fun c8 => ?_) (fun c8 => ?_)
    · replace h := cnd_t c8 h
      refine goL ?_
      refine V_ret ?_
      replace h := Option.some.inj h
      subst h
      exact R_rP
    · replace h := cnd_f c8 h
      refine V_skip ?_
      show V _ _ _ _ _
      refine goL ?_
      refine VO_k (Q_build TBd.h TZ.h rfl (by repeat constructor)) ?_
      refine VO_k (Q_build TBd.h TZ.h rfl (by repeat constructor)) ?_
      refine VO_k (Q_build TBd.h TZ.h rfl (by repeat constructor)) ?_
      refine VO_k (Q_build TBd.h TZ.h rfl (by repeat constructor)) ?_
      refine VO_lb (us := eBindings [(TBinding.mk [97] (TType.mk 2 [105, 110, 116] [])), (TBinding.mk [98] (TType.mk 2 [105, 110, 116] []))]) ?_
      refine goL ?_
      obtain ⟨g9, h⟩ := gd_s h
      obtain ⟨x10, hx10, h⟩ := lt_x h
      obtain ⟨x10_0, x10_1, x10_2⟩ := x10
      have sx10 := t_iApply [(TBinding.mk [97] (TType.mk 2 [105, 110, 116] [])), (TBinding.mk [98] (TType.mk 2 [105, 110, 116] []))] (TType.mk x2_0_2_0 x2_0_2_1 x2_0_2_2) g9
      rw [hx10] at sx10
      refine VO_co (sx10) ?_
      refine goL ?_
      obtain ⟨b11, hb11, h⟩ := bnd_s h
      refine VO_join ⟨[(3, .ptr 0 0), (4, .ptr 1 0), (59, .d (.b b11))], [.box [.d (.s x2_0_0), .d (.sl 1 (eStrs x2_0_1)), .d (.i .i64 x2_0_2_0), .d (.s x2_0_2_1), .d (.sl 3 (eTypes x2_0_2_2)), .d (.sl 4 (eBounds x2_0_3)), .d (.b x2_0_4), .d (.b x2_0_5), .d (.i .i64 x2_0_6_0), .d (.s x2_0_6_1), .d (.sl 3 (eTypes x2_0_6_2)), .d (.sl 11 (eMethods x2_0_7))], .box [.d (.s x2_1_0), .d (.sl 1 (eStrs x2_1_1)), .d (.i .i64 x2_1_2_0), .d (.s x2_1_2_1), .d (.sl 3 (eTypes x2_1_2_2)), .d (.sl 4 (eBounds x2_1_3)), .d (.b x2_1_4), .d (.b x2_1_5), .d (.i .i64 x2_1_6_0), .d (.s x2_1_6_1), .d (.sl 3 (eTypes x2_1_6_2)), .d (.sl 11 (eMethods x2_1_7))], .arr 37 4 0 (eBindings [(TBinding.mk [97] (TType.mk 2 [105, 110, 116] [])), (TBinding.mk [98] (TType.mk 2 [105, 110, 116] []))]), .own 27 3 0 (eTypes x10_2), .box [.d (.i .i64 x10_0), .d (.s x10_1), .sl 3 0]], Try.f3.ntmps⟩ ?_ ?_
      · refine VO_case 39 (fun c12 => ?_) (fun c12 => ?_)
        · replace hb11 := cnd_t c12 hb11
          refine goL ?_
          cases hb11
          exact ⟨rfl, ⟨⟨rfl, rfl⟩, ⟨rfl, rfl⟩, ⟨rfl, rfl⟩, trivial⟩, ⟨[], rfl⟩, rfl⟩
        · replace hb11 := cnd_f c12 hb11
          refine goL ?_
          refine VO_case 46 (fun c13 => ?_) (fun c13 => ?_)
          · replace hb11 := cnd_t c13 hb11
            refine goL ?_
            cases hb11
            exact ⟨rfl, ⟨⟨rfl, rfl⟩, ⟨rfl, rfl⟩, ⟨rfl, rfl⟩, trivial⟩, ⟨[], rfl⟩, rfl⟩
          · replace hb11 := cnd_f c13 hb11
            refine goL ?_
            refine VO_b ?_
            obtain ⟨x14, hx14, hb11⟩ := bnd_s hb11
            refine VO_k (Q_cb (w_sMatches (TType.mk x2_0_2_0 x2_0_2_1 x2_0_2_2) (TType.mk x10_0 x10_1 x10_2) hx14)) ?_
            refine goL ?_
            refine VO_case 53 (fun c15 => ?_) (fun c15 => ?_)
            · replace hb11 := cnd_t c15 hb11
              refine goL ?_
              cases hb11
              exact ⟨rfl, ⟨⟨rfl, rfl⟩, ⟨rfl, rfl⟩, ⟨rfl, rfl⟩, trivial⟩, ⟨[], rfl⟩, rfl⟩
            · replace hb11 := cnd_f c15 hb11
              refine goL ?_
              refine VO_b ?_
              obtain ⟨x16, hx16, hb11⟩ := bnd_s hb11
              refine VO_k (Q_cb (w_sMatches (TType.mk x2_1_2_0 x2_1_2_1 x2_1_2_2) (TType.mk x10_0 x10_1 x10_2) hx16)) ?_
              refine goL ?_
              cases hb11
              exact ⟨rfl, ⟨⟨rfl, rfl⟩, ⟨rfl, rfl⟩, ⟨rfl, rfl⟩, trivial⟩, ⟨[], rfl⟩, rfl⟩
      refine goL ?_
      refine V_cb (fun c17 => ?_) (fun c17 => ?_)
      · replace h := cnd_t c17 h
        refine goL ?_
        refine V_ret ?_
        replace h := Option.some.inj h
        subst h
        exact R_rP
      · replace h := cnd_f c17 h
        refine V_skip ?_
        show V _ _ _ _ _
        refine goL ?_
        obtain ⟨x18, hx18, h⟩ := bnd_s h
        refine VO_r (QR_call (w_iMoreSpec (TType.mk x2_0_2_0 x2_0_2_1 x2_0_2_2) (TType.mk x2_1_2_0 x2_1_2_1 x2_1_2_2) hx18)) ?_
        refine goL ?_
        obtain ⟨b19, hb19, h⟩ := bnd_s h
        refine VO_join ⟨[(2, .d (.b b19))], [.box [.d (.s x2_0_0), .d (.sl 1 (eStrs x2_0_1)), .d (.i .i64 x2_0_2_0), .d (.s x2_0_2_1), .d (.sl 3 (eTypes x2_0_2_2)), .d (.sl 4 (eBounds x2_0_3)), .d (.b x2_0_4), .d (.b x2_0_5), .d (.i .i64 x2_0_6_0), .d (.s x2_0_6_1), .d (.sl 3 (eTypes x2_0_6_2)), .d (.sl 11 (eMethods x2_0_7))], .box [.d (.s x2_1_0), .d (.sl 1 (eStrs x2_1_1)), .d (.i .i64 x2_1_2_0), .d (.s x2_1_2_1), .d (.sl 3 (eTypes x2_1_2_2)), .d (.sl 4 (eBounds x2_1_3)), .d (.b x2_1_4), .d (.b x2_1_5), .d (.i .i64 x2_1_6_0), .d (.s x2_1_6_1), .d (.sl 3 (eTypes x2_1_6_2)), .d (.sl 11 (eMethods x2_1_7))], .arr 37 4 0 (eBindings [(TBinding.mk [97] (TType.mk 2 [105, 110, 116] [])), (TBinding.mk [98] (TType.mk 2 [105, 110, 116] []))]), .own 27 3 0 (eTypes x10_2), .box [.d (.i .i64 x10_0), .d (.s x10_1), .sl 3 0]], Try.f3.ntmps⟩ ?_ ?_
        · refine VO_case 65 (fun c20 => ?_) (fun c20 => ?_)
          · replace hb19 := cnd_t c20 hb19
            refine goL ?_
            refine VO_case 69 (fun c21 => ?_) (fun c21 => ?_)
            · replace hb19 := cnd_t c21 hb19
              refine goL ?_
              cases hb19
              exact ⟨rfl, ⟨⟨rfl, rfl⟩, trivial⟩, ⟨[], rfl⟩, rfl⟩
            · replace hb19 := cnd_f c21 hb19
              refine goL ?_
              refine VO_b ?_
              obtain ⟨x22, hx22, hb19⟩ := bnd_s hb19
              refine VO_r (QR_call (w_iMoreSpec (TType.mk x2_1_2_0 x2_1_2_1 x2_1_2_2) (TType.mk x2_0_2_0 x2_0_2_1 x2_0_2_2) hx22)) ?_
              refine goL ?_
              refine VO_case 75 (fun c23 => ?_) (fun c23 => ?_)
              · replace hb19 := cnd_t c23 hb19
                refine goL ?_
                cases hb19
                exact ⟨rfl, ⟨⟨rfl, rfl⟩, trivial⟩, ⟨[], rfl⟩, rfl⟩
              · replace hb19 := cnd_f c23 hb19
                refine goL ?_
                cases hb19
                exact ⟨rfl, ⟨⟨rfl, rfl⟩, trivial⟩, ⟨[], rfl⟩, rfl⟩
          · replace hb19 := cnd_f c20 hb19
            refine goL ?_
            refine VO_b ?_
            obtain ⟨x24, hx24, hb19⟩ := bnd_s hb19
            refine VO_r (QR_call (w_iMoreSpec (TType.mk x2_1_2_0 x2_1_2_1 x2_1_2_2) (TType.mk x2_0_2_0 x2_0_2_1 x2_0_2_2) hx24)) ?_
            refine goL ?_
            refine VO_case 75 (fun c25 => ?_) (fun c25 => ?_)
            · replace hb19 := cnd_t c25 hb19
              refine goL ?_
              cases hb19
              exact ⟨rfl, ⟨⟨rfl, rfl⟩, trivial⟩, ⟨[], rfl⟩, rfl⟩
            · replace hb19 := cnd_f c25 hb19
              refine goL ?_
              cases hb19
              exact ⟨rfl, ⟨⟨rfl, rfl⟩, trivial⟩, ⟨[], rfl⟩, rfl⟩
        refine goL ?_
        refine V_ret ?_
        replace h := Option.some.inj h
        subst h
        exact R_rP
end Go.Proofs.Ytiaghdodeinecaa
