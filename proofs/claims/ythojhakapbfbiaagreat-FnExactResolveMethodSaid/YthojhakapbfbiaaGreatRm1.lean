/- Rm1. Written by a program of mine (aw.py). -/
import Derived.Test.YthojhakapbfbiaaGreatFacts
import Derived.Test.YthojhakapbfbiaaGreatEng53
set_option linter.unusedVariables false
set_option linter.unusedSimpArgs false
set_option linter.unusedSectionVars false
namespace Go.Proofs.YthojhakapbfbiaaGreat
open Go Go.Eng
attribute [local irreducible] V VO VQ VY Quiet QR SpecP SpecO MSpec Rng PostP PostO
def b_IxMethod_l1 (a1 : TMethod → Option Bool) : List TMethod → Nat → Option (Int)
  | [], y1 => (some (-1))
  | x4 :: xs, y1 => bnd (a1 x4) fun x5 =>
(cnd x5 (
(some (y1 : Int))) (
b_IxMethod_l1 a1 xs (y1 + 1)))
def b_IxMethod (a0 : List TMethod) (a1 : TMethod → Option Bool) : Option (Int) :=
b_IxMethod_l1 a1 a0 0
set_option maxHeartbeats 4000000 in
theorem w_IxMethod (a0 : List TMethod) {a1f : Nat} {a1c : List SV} {a1 : TMethod → Option Bool} (a1_lt : ∀ n, SV.lts n a1c = true) (ha1 : ∀ (x0 : TMethod) (r : Bool), a1 x0 = some r → SpecP Tryz.prog a1f ([.d (eMethod x0)] ++ a1c) [.b r]) {r : Int} (h : b_IxMethod a0 a1 = some r) : SpecP Tryz.prog 93 [.d (.sl 11 (eMethods a0)), .fn a1f a1c] [.i .i64 r] := by
  unfold b_IxMethod at h
  refine SpecP_intro Tryz.func93 rfl (by kernel_rfl) rfl fun A _ => ?_
  refine goL ?_
  refine V_block ?_
  show V _ _ _ _ _
  refine V_bd 0 (fun z2 => ?_)
  refine V_loop1 (fun (y1 : Nat) => ⟨[(0, .d (.sl 11 (eMethods a0))), (1, .fn a1f a1c), (7, .d (.i .i64 (a0.length : Int))), (8, .d (.i .i64 (y1 : Int)))], [], Tryz.f93.ntmps⟩) (fun y1 => b_IxMethod_l1 a1 (a0.drop y1) y1 = some r) (fun y1 => a0.length - y1) 0 ⟨rfl, ⟨⟨rfl, rfl⟩, ⟨rfl, a1_lt _⟩, ⟨rfl, rfl⟩, ⟨rfl, rfl⟩, trivial⟩, ⟨[], rfl⟩, rfl⟩ h ?_
  rintro y1 h
  refine goL ?_
  refine V_seq (V_cb (fun c3 => ?_) (fun c3 => ?_))
  · have hky12 := kltN c3
    obtain ⟨x4, hx4, hdx4⟩ := drop_at hky12
    rw [hdx4, b_IxMethod_l1.eq_2] at h
    obtain ⟨x4_0, x4_1, ⟨x4_2_0, x4_2_1, x4_2_2, x4_2_3, ⟨x4_2_4_0, x4_2_4_1, x4_2_4_2⟩, x4_2_5, x4_2_6⟩⟩ := x4
    refine V_skip ?_
    show V _ _ _ _ _
    refine V_seq (V_block ?_)
    refine goL ?_
    refine VO_r (QR_ixn y1 (gMethod hx4)) ?_
    refine goL ?_
    obtain ⟨x5, hx5, h⟩ := bnd_s h
    refine VO_r (QR_callf (ha1 _ _ hx5) (a1_lt 0)) ?_
    refine goL ?_
    refine V_cb (fun c6 => ?_) (fun c6 => ?_)
    · replace h := cnd_t c6 h
      refine goL ?_
      refine V_ret ?_
      replace h := Option.some.inj h
      subst h
      exact R_rP
    · replace h := cnd_f c6 h
      refine V_skip ?_
      show V _ _ _ _ _
      refine goL ?_
      refine VO_r (QR_inc y1 (by omega)) ?_
      refine goL ?_
      exact ⟨(y1 + 1), h, by omega, ⟨rfl, ⟨⟨rfl, rfl⟩, ⟨rfl, a1_lt _⟩, ⟨rfl, rfl⟩, ⟨rfl, rfl⟩, trivial⟩, ⟨_, rfl⟩, rfl⟩⟩
  · have hky12 := kgeN c3
    rw [drop_end hky12, b_IxMethod_l1.eq_1] at h
    refine V_exit ?_
    show V _ _ _ _ _
    refine goL ?_
    refine V_ret ?_
    replace h := Option.some.inj h
    subst h
    exact R_rP
def b_methIx1 (a0 : TMethod) (a1 : List UInt8) : Bool :=
(a0.name == a1)
set_option maxHeartbeats 4000000 in
theorem w_methIx1 (a0 : TMethod) (a1 : List UInt8) : SpecP Tryz.prog 94 [.d (eMethod a0), .dp (.s a1)] [.b (b_methIx1 a0 a1)] := by
  obtain ⟨r, h⟩ : ∃ r, b_methIx1 a0 a1 = r := ⟨_, rfl⟩
  rw [h]
  obtain ⟨a0_0, a0_1, ⟨a0_2_0, a0_2_1, a0_2_2, a0_2_3, ⟨a0_2_4_0, a0_2_4_1, a0_2_4_2⟩, a0_2_5, a0_2_6⟩⟩ := a0
  unfold b_methIx1 at h
  refine SpecP_intro Tryz.func94 rfl (by kernel_rfl) rfl fun A _ => ?_
  refine goL ?_
  refine V_ret ?_
  subst h
  exact R_rP
def b_methIx (a0 : TInstance) (a1 : List UInt8) : Option (Int) :=
bnd (b_IxMethod a0.methods (fun z0 => some (b_methIx1 z0 a1))) fun x1 =>
(some x1)
set_option maxHeartbeats 4000000 in
theorem w_methIx (a0 : TInstance) (a1 : List UInt8) {r : Int} (h : b_methIx a0 a1 = some r) : SpecP Tryz.prog 47 [.d (eInstance a0), .d (.s a1)] [.i .i64 r] := by
  obtain ⟨a0_0, a0_1, ⟨a0_2_0, a0_2_1, a0_2_2⟩, a0_3, a0_4, a0_5, ⟨a0_6_0, a0_6_1, a0_6_2⟩, a0_7⟩ := a0
  unfold b_methIx at h
  refine SpecP_intro Tryz.func47 rfl (by kernel_rfl) rfl fun A _ => ?_
  refine goL ?_
  refine VO_r (QR_fn) ?_
  obtain ⟨x1, hx1, h⟩ := bnd_s h
  refine VO_k (Q_cc (w_IxMethod a0_7 (a1 := (fun z0 => some (b_methIx1 z0 a1))) (fun _ => rfl) (fun z0 r hr => by cases hr; exact w_methIx1 z0 a1) hx1)) ?_
  refine goL ?_
  refine V_ret ?_
  replace h := Option.some.inj h
  subst h
  exact R_rP
def b_IxUnit_l1 (a1 : TUnit → Option Bool) : List TUnit → Nat → Option (Int)
  | [], y1 => (some (-1))
  | x4 :: xs, y1 => bnd (a1 x4) fun x5 =>
(cnd x5 (
(some (y1 : Int))) (
b_IxUnit_l1 a1 xs (y1 + 1)))
def b_IxUnit (a0 : List TUnit) (a1 : TUnit → Option Bool) : Option (Int) :=
b_IxUnit_l1 a1 a0 0
set_option maxHeartbeats 4000000 in
theorem w_IxUnit (a0 : List TUnit) {a1f : Nat} {a1c : List SV} {a1 : TUnit → Option Bool} (a1_lt : ∀ n, SV.lts n a1c = true) (ha1 : ∀ (x0 : TUnit) (r : Bool), a1 x0 = some r → SpecP Tryz.prog a1f ([.d (eUnit x0)] ++ a1c) [.b r]) {r : Int} (h : b_IxUnit a0 a1 = some r) : SpecP Tryz.prog 95 [.d (.sl 21 (eUnits a0)), .fn a1f a1c] [.i .i64 r] := by
  unfold b_IxUnit at h
  refine SpecP_intro Tryz.func95 rfl (by kernel_rfl) rfl fun A _ => ?_
  refine goL ?_
  refine V_block ?_
  show V _ _ _ _ _
  refine V_bd 0 (fun z2 => ?_)
  refine V_loop1 (fun (y1 : Nat) => ⟨[(0, .d (.sl 21 (eUnits a0))), (1, .fn a1f a1c), (7, .d (.i .i64 (a0.length : Int))), (8, .d (.i .i64 (y1 : Int)))], [], Tryz.f95.ntmps⟩) (fun y1 => b_IxUnit_l1 a1 (a0.drop y1) y1 = some r) (fun y1 => a0.length - y1) 0 ⟨rfl, ⟨⟨rfl, rfl⟩, ⟨rfl, a1_lt _⟩, ⟨rfl, rfl⟩, ⟨rfl, rfl⟩, trivial⟩, ⟨[], rfl⟩, rfl⟩ h ?_
  rintro y1 h
  refine goL ?_
  refine V_seq (V_cb (fun c3 => ?_) (fun c3 => ?_))
  · have hky12 := kltN c3
    obtain ⟨x4, hx4, hdx4⟩ := drop_at hky12
    rw [hdx4, b_IxUnit_l1.eq_2] at h
    obtain ⟨x4_0, x4_1, x4_2, x4_3, x4_4, x4_5, x4_6, ⟨x4_7_0, x4_7_1, x4_7_2⟩, ⟨x4_8_0, x4_8_1, x4_8_2, x4_8_3, ⟨x4_8_4_0, x4_8_4_1, x4_8_4_2⟩, x4_8_5, x4_8_6, x4_8_7, x4_8_8⟩⟩ := x4
    refine V_skip ?_
    show V _ _ _ _ _
    refine V_seq (V_block ?_)
    refine goL ?_
    refine VO_r (QR_ixn y1 (gUnit hx4)) ?_
    refine goL ?_
    obtain ⟨x5, hx5, h⟩ := bnd_s h
    refine VO_r (QR_callf (ha1 _ _ hx5) (a1_lt 0)) ?_
    refine goL ?_
    refine V_cb (fun c6 => ?_) (fun c6 => ?_)
    · replace h := cnd_t c6 h
      refine goL ?_
      refine V_ret ?_
      replace h := Option.some.inj h
      subst h
      exact R_rP
    · replace h := cnd_f c6 h
      refine V_skip ?_
      show V _ _ _ _ _
      refine goL ?_
      refine VO_r (QR_inc y1 (by omega)) ?_
      refine goL ?_
      exact ⟨(y1 + 1), h, by omega, ⟨rfl, ⟨⟨rfl, rfl⟩, ⟨rfl, a1_lt _⟩, ⟨rfl, rfl⟩, ⟨rfl, rfl⟩, trivial⟩, ⟨_, rfl⟩, rfl⟩⟩
  · have hky12 := kgeN c3
    rw [drop_end hky12, b_IxUnit_l1.eq_1] at h
    refine V_exit ?_
    show V _ _ _ _ _
    refine goL ?_
    refine V_ret ?_
    replace h := Option.some.inj h
    subst h
    exact R_rP
def b_findU1 (a0 : TUnit) (a1 : Int) (a2 : Int) (a3 : Int) (a4 : Int) : Bool :=
lt_ ((cnd (a0.kind == a1) ((cnd (a0.package == a2) ((cnd (a0.at_ == a3) ((a0.sub == a4)) (false))) (false))) (false))) fun b1 =>
b1
set_option maxHeartbeats 4000000 in
theorem w_findU1 (a0 : TUnit) (a1 : Int) (a2 : Int) (a3 : Int) (a4 : Int) : SpecP Tryz.prog 96 [.d (eUnit a0), .dp (.i .i64 a1), .dp (.i .i64 a2), .dp (.i .i64 a3), .dp (.i .i64 a4)] [.b (b_findU1 a0 a1 a2 a3 a4)] := by
  obtain ⟨r, h⟩ : ∃ r, b_findU1 a0 a1 a2 a3 a4 = r := ⟨_, rfl⟩
  rw [h]
  obtain ⟨a0_0, a0_1, a0_2, a0_3, a0_4, a0_5, a0_6, ⟨a0_7_0, a0_7_1, a0_7_2⟩, ⟨a0_8_0, a0_8_1, a0_8_2, a0_8_3, ⟨a0_8_4_0, a0_8_4_1, a0_8_4_2⟩, a0_8_5, a0_8_6, a0_8_7, a0_8_8⟩⟩ := a0
  unfold b_findU1 at h
  refine SpecP_intro Tryz.func96 rfl (by kernel_rfl) rfl fun A _ => ?_
  refine goL ?_
  obtain ⟨b1, hb1, h⟩ := lt_x h
  refine VO_join ⟨[(6, .d (.b b1))], [.box [.d (.i .i64 a0_0), .d (.i .i64 a0_1), .d (.i .i64 a0_2), .d (.i .i64 a0_3), .d (.sl 1 (eStrs a0_4)), .d (.sl 4 (eBounds a0_5)), .d (.sl 4 (eParams a0_6)), .d (.i .i64 a0_7_0), .d (.s a0_7_1), .d (.sl 3 (eTypes a0_7_2)), .d (.i .i64 a0_8_0), .d (.s a0_8_1), .d (.s a0_8_2), .d (.i .i64 a0_8_3), .d (.i .i64 a0_8_4_0), .d (.s a0_8_4_1), .d (.sl 3 (eTypes a0_8_4_2)), .d (.sl 3 (eTypes a0_8_5)), .d (.sl 5 (eEvidences a0_8_6)), .d (.sl 11 (eCores a0_8_7)), .d (.sl 13 (eCoreArms a0_8_8))]], Tryz.f96.ntmps⟩ ?_ ?_
  · refine VO_case 11 (fun c2 => ?_) (fun c2 => ?_)
    · replace hb1 := cnd_t c2 hb1
      refine goL ?_
      refine VO_case 17 (fun c3 => ?_) (fun c3 => ?_)
      · replace hb1 := cnd_t c3 hb1
        refine goL ?_
        refine VO_case 23 (fun c4 => ?_) (fun c4 => ?_)
        · replace hb1 := cnd_t c4 hb1
          refine goL ?_
          cases hb1
          exact ⟨rfl, ⟨⟨rfl, rfl⟩, trivial⟩, ⟨[], rfl⟩, rfl⟩
        · replace hb1 := cnd_f c4 hb1
          refine goL ?_
          cases hb1
          exact ⟨rfl, ⟨⟨rfl, rfl⟩, trivial⟩, ⟨[], rfl⟩, rfl⟩
      · replace hb1 := cnd_f c3 hb1
        refine goL ?_
        cases hb1
        exact ⟨rfl, ⟨⟨rfl, rfl⟩, trivial⟩, ⟨[], rfl⟩, rfl⟩
    · replace hb1 := cnd_f c2 hb1
      refine goL ?_
      cases hb1
      exact ⟨rfl, ⟨⟨rfl, rfl⟩, trivial⟩, ⟨[], rfl⟩, rfl⟩
  refine goL ?_
  refine V_ret ?_
  subst h
  exact R_rP
def b_iFindU (a0 : List TUnit) (a1 : Int) (a2 : Int) (a3 : Int) (a4 : Int) : Option (Int) :=
bnd (b_IxUnit a0 (fun z0 => some (b_findU1 z0 a1 a2 a3 a4))) fun x1 =>
(some x1)
set_option maxHeartbeats 4000000 in
theorem w_iFindU (a0 : List TUnit) (a1 : Int) (a2 : Int) (a3 : Int) (a4 : Int) {r : Int} (h : b_iFindU a0 a1 a2 a3 a4 = some r) : SpecP Tryz.prog 48 [.d (.sl 21 (eUnits a0)), .d (.i .i64 a1), .d (.i .i64 a2), .d (.i .i64 a3), .d (.i .i64 a4)] [.i .i64 r] := by
  unfold b_iFindU at h
  refine SpecP_intro Tryz.func48 rfl (by kernel_rfl) rfl fun A _ => ?_
  refine goL ?_
  refine VO_r (QR_fn) ?_
  obtain ⟨x1, hx1, h⟩ := bnd_s h
  refine VO_k (Q_cc (w_IxUnit a0 (a1 := (fun z0 => some (b_findU1 z0 a1 a2 a3 a4))) (fun _ => rfl) (fun z0 r hr => by cases hr; exact w_findU1 z0 a1 a2 a3 a4) hx1)) ?_
  refine goL ?_
  refine V_ret ?_
  replace h := Option.some.inj h
  subst h
  exact R_rP
def b_IxTrait_l1 (a1 : TTrait → Option Bool) : List TTrait → Nat → Option (Int)
  | [], y1 => (some (-1))
  | x4 :: xs, y1 => bnd (a1 x4) fun x5 =>
(cnd x5 (
(some (y1 : Int))) (
b_IxTrait_l1 a1 xs (y1 + 1)))
def b_IxTrait (a0 : List TTrait) (a1 : TTrait → Option Bool) : Option (Int) :=
b_IxTrait_l1 a1 a0 0
set_option maxHeartbeats 4000000 in
theorem w_IxTrait (a0 : List TTrait) {a1f : Nat} {a1c : List SV} {a1 : TTrait → Option Bool} (a1_lt : ∀ n, SV.lts n a1c = true) (ha1 : ∀ (x0 : TTrait) (r : Bool), a1 x0 = some r → SpecP Tryz.prog a1f ([.d (eTrait x0)] ++ a1c) [.b r]) {r : Int} (h : b_IxTrait a0 a1 = some r) : SpecP Tryz.prog 97 [.d (.sl 5 (eTraits a0)), .fn a1f a1c] [.i .i64 r] := by
  unfold b_IxTrait at h
  refine SpecP_intro Tryz.func97 rfl (by kernel_rfl) rfl fun A _ => ?_
  refine goL ?_
  refine V_block ?_
  show V _ _ _ _ _
  refine V_bd 0 (fun z2 => ?_)
  refine V_loop1 (fun (y1 : Nat) => ⟨[(0, .d (.sl 5 (eTraits a0))), (1, .fn a1f a1c), (7, .d (.i .i64 (a0.length : Int))), (8, .d (.i .i64 (y1 : Int)))], [], Tryz.f97.ntmps⟩) (fun y1 => b_IxTrait_l1 a1 (a0.drop y1) y1 = some r) (fun y1 => a0.length - y1) 0 ⟨rfl, ⟨⟨rfl, rfl⟩, ⟨rfl, a1_lt _⟩, ⟨rfl, rfl⟩, ⟨rfl, rfl⟩, trivial⟩, ⟨[], rfl⟩, rfl⟩ h ?_
  rintro y1 h
  refine goL ?_
  refine V_seq (V_cb (fun c3 => ?_) (fun c3 => ?_))
  · have hky12 := kltN c3
    obtain ⟨x4, hx4, hdx4⟩ := drop_at hky12
    rw [hdx4, b_IxTrait_l1.eq_2] at h
    obtain ⟨x4_0, x4_1, x4_2, x4_3, x4_4⟩ := x4
    refine V_skip ?_
    show V _ _ _ _ _
    refine V_seq (V_block ?_)
    refine goL ?_
    refine VO_r (QR_ixn y1 (gTrait hx4)) ?_
    refine goL ?_
    obtain ⟨x5, hx5, h⟩ := bnd_s h
    refine VO_r (QR_callf (ha1 _ _ hx5) (a1_lt 0)) ?_
    refine goL ?_
    refine V_cb (fun c6 => ?_) (fun c6 => ?_)
    · replace h := cnd_t c6 h
      refine goL ?_
      refine V_ret ?_
      replace h := Option.some.inj h
      subst h
      exact R_rP
    · replace h := cnd_f c6 h
      refine V_skip ?_
      show V _ _ _ _ _
      refine goL ?_
      refine VO_r (QR_inc y1 (by omega)) ?_
      refine goL ?_
      exact ⟨(y1 + 1), h, by omega, ⟨rfl, ⟨⟨rfl, rfl⟩, ⟨rfl, a1_lt _⟩, ⟨rfl, rfl⟩, ⟨rfl, rfl⟩, trivial⟩, ⟨_, rfl⟩, rfl⟩⟩
  · have hky12 := kgeN c3
    rw [drop_end hky12, b_IxTrait_l1.eq_1] at h
    refine V_exit ?_
    show V _ _ _ _ _
    refine goL ?_
    refine V_ret ?_
    replace h := Option.some.inj h
    subst h
    exact R_rP
def b_traitIx1 (a0 : TTrait) (a1 : List UInt8) : Bool :=
(a0.name == a1)
set_option maxHeartbeats 4000000 in
theorem w_traitIx1 (a0 : TTrait) (a1 : List UInt8) : SpecP Tryz.prog 98 [.d (eTrait a0), .dp (.s a1)] [.b (b_traitIx1 a0 a1)] := by
  obtain ⟨r, h⟩ : ∃ r, b_traitIx1 a0 a1 = r := ⟨_, rfl⟩
  rw [h]
  obtain ⟨a0_0, a0_1, a0_2, a0_3, a0_4⟩ := a0
  unfold b_traitIx1 at h
  refine SpecP_intro Tryz.func98 rfl (by kernel_rfl) rfl fun A _ => ?_
  refine goL ?_
  refine V_ret ?_
  subst h
  exact R_rP
def b_traitIx (a0 : TPackage) (a1 : List UInt8) : Option (Int) :=
bnd (b_IxTrait a0.traits (fun z0 => some (b_traitIx1 z0 a1))) fun x1 =>
(some x1)
set_option maxHeartbeats 4000000 in
theorem w_traitIx (a0 : TPackage) (a1 : List UInt8) {r : Int} (h : b_traitIx a0 a1 = some r) : SpecP Tryz.prog 52 [.d (ePackage a0), .d (.s a1)] [.i .i64 r] := by
  obtain ⟨a0_0, a0_1, a0_2, a0_3, a0_4, a0_5⟩ := a0
  unfold b_traitIx at h
  refine SpecP_intro Tryz.func52 rfl (by kernel_rfl) rfl fun A _ => ?_
  refine goL ?_
  refine VO_r (QR_fn) ?_
  obtain ⟨x1, hx1, h⟩ := bnd_s h
  refine VO_k (Q_cc (w_IxTrait a0_2 (a1 := (fun z0 => some (b_traitIx1 z0 a1))) (fun _ => rfl) (fun z0 r hr => by cases hr; exact w_traitIx1 z0 a1) hx1)) ?_
  refine goL ?_
  refine V_ret ?_
  replace h := Option.some.inj h
  subst h
  exact R_rP
def b_iInst (a0 : TProgram) (a1 : TInstanceRef) : Option (TInstance × Bool) :=
bnd ((cnd (decide (a1.package < 0)) ((some true)) ((cnd (decide (a1.package ≥ (a0.packages.length : Int))) ((some true)) ((cnd (decide (a1.at_ < 0)) ((some true)) (bnd (at? a0.packages a1.package) fun x5 =>
(some (decide (a1.at_ ≥ (x5.instances.length : Int))))))))))) fun b1 =>
(cnd b1 (
(some ((TInstance.mk [] [] (TType.mk 0 [] []) [] false false (TType.mk 0 [] []) []), false))) (
bnd (at? a0.packages a1.package) fun x7 =>
bnd (at? x7.instances a1.at_) fun x8 =>
(some (x8, true))))
set_option maxHeartbeats 4000000 in
theorem w_iInst (a0 : TProgram) (a1 : TInstanceRef) {r : TInstance × Bool} (h : b_iInst a0 a1 = some r) : SpecP Tryz.prog 46 [.d (eProgram a0), .d (eInstanceRef a1)] [eInstance r.1, .b r.2] := by
  obtain ⟨a0_0⟩ := a0
  obtain ⟨a1_0, a1_1⟩ := a1
  unfold b_iInst at h
  refine SpecP_intro Tryz.func46 rfl (by kernel_rfl) rfl fun A _ => ?_
  refine goNL ?_
  obtain ⟨b1, hb1, h⟩ := bnd_s h
  refine V_seqJ_draw (P := Tryz.prog) Mix.h ⟨[(2, .ptr 0 0), (3, .ptr 1 0), (4, .ptr 2 0), (34, .d (.b b1))], [.box [.d (.sl 6 (ePackages a0_0))], .box [.d (.i .i64 a1_0), .d (.i .i64 a1_1)], .box [.d (.s []), .nilsl, .d (.i .i64 0), .d (.s []), .nilsl, .nilsl, .d (.b false), .d (.b false), .d (.i .i64 0), .d (.s []), .nilsl, .nilsl]], Tryz.f46.ntmps⟩ (by kernel_rfl) ?_ ?_
  · refine goL ?_
    refine VQ_case 9 (fun c2 => ?_) (fun c2 => ?_)
    · replace hb1 := cnd_t c2 hb1
      refine goL ?_
      cases hb1
      exact ⟨rfl, ⟨⟨rfl, rfl⟩, ⟨rfl, rfl⟩, ⟨rfl, rfl⟩, ⟨rfl, rfl⟩, trivial⟩, ⟨[], rfl⟩, rfl⟩
    · replace hb1 := cnd_f c2 hb1
      refine goL ?_
      refine VQ_case 17 (fun c3 => ?_) (fun c3 => ?_)
      · replace hb1 := cnd_t c3 hb1
        refine goL ?_
        cases hb1
        exact ⟨rfl, ⟨⟨rfl, rfl⟩, ⟨rfl, rfl⟩, ⟨rfl, rfl⟩, ⟨rfl, rfl⟩, trivial⟩, ⟨[], rfl⟩, rfl⟩
      · replace hb1 := cnd_f c3 hb1
        refine goL ?_
        refine VQ_case 22 (fun c4 => ?_) (fun c4 => ?_)
        · replace hb1 := cnd_t c4 hb1
          refine goL ?_
          cases hb1
          exact ⟨rfl, ⟨⟨rfl, rfl⟩, ⟨rfl, rfl⟩, ⟨rfl, rfl⟩, ⟨rfl, rfl⟩, trivial⟩, ⟨[], rfl⟩, rfl⟩
        · replace hb1 := cnd_f c4 hb1
          refine goL ?_
          obtain ⟨x5, hx5, hb1⟩ := bnd_s hb1
          obtain ⟨hx50, hx5⟩ := at_s hx5
          obtain ⟨x5_0, x5_1, x5_2, x5_3, x5_4, x5_5⟩ := x5
          refine VQ_rg (QR_ixi hx50 (gPackage hx5)) ?_
          refine goL ?_
          cases hb1
          exact ⟨rfl, ⟨⟨rfl, rfl⟩, ⟨rfl, rfl⟩, ⟨rfl, rfl⟩, ⟨rfl, rfl⟩, trivial⟩, ⟨[], rfl⟩, rfl⟩
  refine goL ?_
  refine V_cb (fun c6 => ?_) (fun c6 => ?_)
  · replace h := cnd_t c6 h
    refine goL ?_
    refine VO_k (Q_build TBd.h TZ.h rfl (by repeat constructor)) ?_
    refine goL ?_
    refine V_ret ?_
    replace h := Option.some.inj h
    subst h
    exact R_rP
  · replace h := cnd_f c6 h
    refine V_skip ?_
    show V _ _ _ _ _
    refine V_seq_drawX (P := Tryz.prog) Mix.h [(0, true), (1, true), (2, true), (3, true), (4, true), (5, true), (6, true), (7, true), (8, true), (9, true), (10, true), (11, false), (12, true)] (by kernel_rfl) ?_
    refine goY ?_
    obtain ⟨x7, hx7, h⟩ := bnd_s h
    obtain ⟨hx70, hx7⟩ := at_s hx7
    obtain ⟨x7_0, x7_1, x7_2, x7_3, x7_4, x7_5⟩ := x7
    refine VY_ri rfl (QR_ixi hx70 (gPackage hx7)) ?_
    refine goY ?_
    obtain ⟨x8, hx8, h⟩ := bnd_s h
    obtain ⟨hx80, hx8⟩ := at_s hx8
    obtain ⟨x8_0, x8_1, ⟨x8_2_0, x8_2_1, x8_2_2⟩, x8_3, x8_4, x8_5, ⟨x8_6_0, x8_6_1, x8_6_2⟩, x8_7⟩ := x8
    refine VY_ri rfl (QR_ixi hx80 (gInstance hx8)) ?_
    refine goY ?_
    refine VY_nil ?_
    refine goL ?_
    refine V_ret ?_
    replace h := Option.some.inj h
    subst h
    exact R_rP
def b_iTrait_l2 (a1 : List UInt8) (y1 : Nat) (k2_0 : TTrait × Int × Bool) : List TTrait → TTrait × Int × Bool
  | [] => k2_0
  | x8 :: xs => (cnd (x8.name == a1) (
(x8, (y1 : Int), true)) (
b_iTrait_l2 a1 y1 k2_0 xs ))
def b_iTrait_l1 (a1 : List UInt8) : List TPackage → Nat → TTrait × Int × Bool
  | [], y1 => ((TTrait.mk [] [] false false []), 0, false)
  | x4 :: xs, y1 => b_iTrait_l2 a1 y1 (b_iTrait_l1 a1 xs (y1 + 1)) x4.traits 
def b_iTrait (a0 : TProgram) (a1 : List UInt8) : TTrait × Int × Bool :=
b_iTrait_l1 a1 a0.packages 0
set_option maxHeartbeats 4000000 in
theorem w_iTrait (a0 : TProgram) (a1 : List UInt8) : SpecP Tryz.prog 50 [.d (eProgram a0), .d (.s a1)] [eTrait (b_iTrait a0 a1).1, .i .i64 (b_iTrait a0 a1).2.1, .b (b_iTrait a0 a1).2.2] := by
  obtain ⟨r, h⟩ : ∃ r, b_iTrait a0 a1 = r := ⟨_, rfl⟩
  rw [h]
  obtain ⟨a0_0⟩ := a0
  unfold b_iTrait at h
  refine SpecP_intro Tryz.func50 rfl (by kernel_rfl) rfl fun A _ => ?_
  refine goL ?_
  refine V_block ?_
  show V _ _ _ _ _
  refine V_bd 12 (fun z2 => ?_)
  refine V_loop1 (fun (y1 : Nat) => ⟨[(1, .d (.s a1)), (4, .ptr 1 0), (12, .d (.sl 6 (ePackages a0_0))), (13, .d (.i .i64 (a0_0.length : Int))), (14, .d (.i .i64 (y1 : Int)))], [.box [.d (.sl 6 (ePackages a0_0))], .box [.d (.s []), .nilsl, .d (.b false), .d (.b false), .nilsl]], Tryz.f50.ntmps⟩) (fun y1 => b_iTrait_l1 a1 (a0_0.drop y1) y1 = r) (fun y1 => a0_0.length - y1) 0 ⟨rfl, ⟨⟨rfl, rfl⟩, ⟨rfl, rfl⟩, ⟨rfl, rfl⟩, ⟨rfl, rfl⟩, ⟨rfl, rfl⟩, trivial⟩, ⟨[], rfl⟩, rfl⟩ h ?_
  rintro y1 h
  refine goL ?_
  refine V_seq (V_cb (fun c3 => ?_) (fun c3 => ?_))
  · have hky12 := kltN c3
    obtain ⟨x4, hx4, hdx4⟩ := drop_at hky12
    rw [hdx4, b_iTrait_l1.eq_2] at h
    obtain ⟨x4_0, x4_1, x4_2, x4_3, x4_4, x4_5⟩ := x4
    refine V_skip ?_
    show V _ _ _ _ _
    refine V_seq (V_block ?_)
    refine goL ?_
    refine VO_r (QR_ixn y1 (gPackage hx4)) ?_
    refine goL ?_
    refine V_block ?_
    show V _ _ _ _ _
    refine V_bd 20 (fun z6 => ?_)
    refine V_loop1 (fun (y5 : Nat) => ⟨[(1, .d (.s a1)), (4, .ptr 1 0), (7, .d (.i .i64 (y1 : Int))), (12, .d (.sl 6 (ePackages a0_0))), (13, .d (.i .i64 (a0_0.length : Int))), (14, .d (.i .i64 (y1 : Int))), (20, .d (.sl 5 (eTraits x4_2))), (21, .d (.i .i64 (x4_2.length : Int))), (22, .d (.i .i64 (y5 : Int)))], [.box [.d (.sl 6 (ePackages a0_0))], .box [.d (.s []), .nilsl, .d (.b false), .d (.b false), .nilsl], .box [.d (.s x4_0), .d (.sl 1 (eStrs x4_1)), .d (.sl 5 (eTraits x4_2)), .d (.sl 3 (eDataTypes x4_3)), .d (.sl 12 (eInstances x4_4)), .d (.sl 16 (eFunctions x4_5))]], Tryz.f50.ntmps⟩) (fun y5 => b_iTrait_l2 a1 y1 (b_iTrait_l1 a1 (a0_0.drop (y1 + 1)) (y1 + 1)) (x4_2.drop y5)  = r) (fun y5 => x4_2.length - y5) 0 ⟨rfl, ⟨⟨rfl, rfl⟩, ⟨rfl, rfl⟩, ⟨rfl, rfl⟩, ⟨rfl, rfl⟩, ⟨rfl, rfl⟩, ⟨rfl, rfl⟩, ⟨rfl, rfl⟩, ⟨rfl, rfl⟩, ⟨rfl, rfl⟩, trivial⟩, ⟨[], rfl⟩, rfl⟩ h ?_
    rintro y5 h
    refine goL ?_
    refine V_seq (V_cb (fun c7 => ?_) (fun c7 => ?_))
    · have hky52 := kltN c7
      obtain ⟨x8, hx8, hdx8⟩ := drop_at hky52
      rw [hdx8, b_iTrait_l2.eq_2] at h
      obtain ⟨x8_0, x8_1, x8_2, x8_3, x8_4⟩ := x8
      refine V_skip ?_
      show V _ _ _ _ _
      refine V_seq (V_block ?_)
      refine goL ?_
      refine VO_r (QR_ixn y5 (gTrait hx8)) ?_
      refine goL ?_
      refine V_cb (fun c9 => ?_) (fun c9 => ?_)
      · replace h := cnd_t c9 h
        refine goL ?_
        refine V_ret ?_
        subst h
        exact R_rP
      · replace h := cnd_f c9 h
        refine V_skip ?_
        show V _ _ _ _ _
        refine goL ?_
        refine VO_r (QR_inc y5 (by omega)) ?_
        refine goL ?_
        exact ⟨(y5 + 1), h, by omega, ⟨rfl, ⟨⟨rfl, rfl⟩, ⟨rfl, rfl⟩, ⟨rfl, rfl⟩, ⟨rfl, rfl⟩, ⟨rfl, rfl⟩, ⟨rfl, rfl⟩, ⟨rfl, rfl⟩, ⟨rfl, rfl⟩, ⟨rfl, rfl⟩, trivial⟩, ⟨_, rfl⟩, rfl⟩⟩
    · have hky52 := kgeN c7
      rw [drop_end hky52, b_iTrait_l2.eq_1] at h
      refine V_exit ?_
      show V _ _ _ _ _
      refine goL ?_
      refine VO_r (QR_inc y1 (by omega)) ?_
      refine goL ?_
      exact ⟨(y1 + 1), h, by omega, ⟨rfl, ⟨⟨rfl, rfl⟩, ⟨rfl, rfl⟩, ⟨rfl, rfl⟩, ⟨rfl, rfl⟩, ⟨rfl, rfl⟩, trivial⟩, ⟨_, rfl⟩, rfl⟩⟩
  · have hky12 := kgeN c3
    rw [drop_end hky12, b_iTrait_l1.eq_1] at h
    refine V_exit ?_
    show V _ _ _ _ _
    refine goL ?_
    refine VO_k (Q_build TBd.h TZ.h rfl (by repeat constructor)) ?_
    refine goL ?_
    refine V_ret ?_
    subst h
    exact R_rP
def b_iSig_l1 (a1 : List UInt8) : List TSignature → Nat → TSignature × Int × Bool
  | [], y1 => ((TSignature.mk [] [] (TType.mk 0 [] []) false [] (TExpr.mk 0 [] [] 0 (TType.mk 0 [] []) [] [])), 0, false)
  | x4 :: xs, y1 => (cnd (x4.name == a1) (
(x4, (y1 : Int), true)) (
b_iSig_l1 a1 xs (y1 + 1)))
def b_iSig (a0 : TTrait) (a1 : List UInt8) : TSignature × Int × Bool :=
b_iSig_l1 a1 a0.signatures 0
set_option maxHeartbeats 4000000 in
theorem w_iSig (a0 : TTrait) (a1 : List UInt8) : SpecP Tryz.prog 51 [.d (eTrait a0), .d (.s a1)] [eSignature (b_iSig a0 a1).1, .i .i64 (b_iSig a0 a1).2.1, .b (b_iSig a0 a1).2.2] := by
  obtain ⟨r, h⟩ : ∃ r, b_iSig a0 a1 = r := ⟨_, rfl⟩
  rw [h]
  obtain ⟨a0_0, a0_1, a0_2, a0_3, a0_4⟩ := a0
  unfold b_iSig at h
  refine SpecP_intro Tryz.func51 rfl (by kernel_rfl) rfl fun A _ => ?_
  refine goL ?_
  refine V_block ?_
  show V _ _ _ _ _
  refine V_bd 10 (fun z2 => ?_)
  refine V_loop1 (fun (y1 : Nat) => ⟨[(1, .d (.s a1)), (4, .ptr 1 0), (10, .d (.sl 16 (eSignatures a0_4))), (11, .d (.i .i64 (a0_4.length : Int))), (12, .d (.i .i64 (y1 : Int)))], [.box [.d (.s a0_0), .d (.sl 1 (eStrs a0_1)), .d (.b a0_2), .d (.b a0_3), .d (.sl 16 (eSignatures a0_4))], .box [.d (.s []), .nilsl, .d (.i .i64 0), .d (.s []), .nilsl, .d (.b false), .nilsl, .d (.i .i64 0), .d (.s []), .d (.s []), .d (.i .i64 0), .d (.i .i64 0), .d (.s []), .nilsl, .nilsl, .nilsl]], Tryz.f51.ntmps⟩) (fun y1 => b_iSig_l1 a1 (a0_4.drop y1) y1 = r) (fun y1 => a0_4.length - y1) 0 ⟨rfl, ⟨⟨rfl, rfl⟩, ⟨rfl, rfl⟩, ⟨rfl, rfl⟩, ⟨rfl, rfl⟩, ⟨rfl, rfl⟩, trivial⟩, ⟨[], rfl⟩, rfl⟩ h ?_
  rintro y1 h
  refine goL ?_
  refine V_seq (V_cb (fun c3 => ?_) (fun c3 => ?_))
  · have hky12 := kltN c3
    obtain ⟨x4, hx4, hdx4⟩ := drop_at hky12
    rw [hdx4, b_iSig_l1.eq_2] at h
    obtain ⟨x4_0, x4_1, ⟨x4_2_0, x4_2_1, x4_2_2⟩, x4_3, x4_4, ⟨x4_5_0, x4_5_1, x4_5_2, x4_5_3, ⟨x4_5_4_0, x4_5_4_1, x4_5_4_2⟩, x4_5_5, x4_5_6⟩⟩ := x4
    refine V_skip ?_
    show V _ _ _ _ _
    refine V_seq (V_block ?_)
    refine goL ?_
    refine VO_r (QR_ixn y1 (gSignature hx4)) ?_
    refine goL ?_
    refine V_cb (fun c5 => ?_) (fun c5 => ?_)
    · replace h := cnd_t c5 h
      refine goL ?_
      refine V_ret ?_
      subst h
      exact R_rP
    · replace h := cnd_f c5 h
      refine V_skip ?_
      show V _ _ _ _ _
      refine goL ?_
      refine VO_r (QR_inc y1 (by omega)) ?_
      refine goL ?_
      exact ⟨(y1 + 1), h, by omega, ⟨rfl, ⟨⟨rfl, rfl⟩, ⟨rfl, rfl⟩, ⟨rfl, rfl⟩, ⟨rfl, rfl⟩, ⟨rfl, rfl⟩, trivial⟩, ⟨_, rfl⟩, rfl⟩⟩
  · have hky12 := kgeN c3
    rw [drop_end hky12, b_iSig_l1.eq_1] at h
    refine V_exit ?_
    show V _ _ _ _ _
    refine goL ?_
    refine VO_k (Q_build TBd.h TZ.h rfl (by repeat constructor)) ?_
    refine goL ?_
    refine V_ret ?_
    subst h
    exact R_rP
def b_l1In (a0 : Int) (a1 : Int) (a2 : Int) : Bool :=
lt_ ((cnd (decide (a0 ≥ a1)) ((decide (a0 ≤ a2))) (false))) fun b1 =>
b1
set_option maxHeartbeats 4000000 in
theorem w_l1In (a0 : Int) (a1 : Int) (a2 : Int) : SpecP Tryz.prog 86 [.d (.i .i64 a0), .d (.i .i64 a1), .d (.i .i64 a2)] [.b (b_l1In a0 a1 a2)] := by
  obtain ⟨r, h⟩ : ∃ r, b_l1In a0 a1 a2 = r := ⟨_, rfl⟩
  rw [h]
  unfold b_l1In at h
  refine SpecP_intro Tryz.func86 rfl (by kernel_rfl) rfl fun A _ => ?_
  refine goL ?_
  obtain ⟨b1, hb1, h⟩ := lt_x h
  refine VO_join ⟨[(6, .d (.b b1))], [], Tryz.f86.ntmps⟩ ?_ ?_
  · refine VO_case 10 (fun c2 => ?_) (fun c2 => ?_)
    · replace hb1 := cnd_t c2 hb1
      refine goL ?_
      cases hb1
      exact ⟨rfl, ⟨⟨rfl, rfl⟩, trivial⟩, ⟨[], rfl⟩, rfl⟩
    · replace hb1 := cnd_f c2 hb1
      refine goL ?_
      cases hb1
      exact ⟨rfl, ⟨⟨rfl, rfl⟩, trivial⟩, ⟨[], rfl⟩, rfl⟩
  refine goL ?_
  refine V_ret ?_
  subst h
  exact R_rP
def b_sInstAt (a0 : TProgram) (a1 : TInstanceRef) : Option (TInstance × Bool) :=
bnd ((cnd (!(b_l1In a1.package 0 (IntKind.i64.wrap ((a0.packages.length : Int) - 1)))) ((some true)) (bnd (at? a0.packages a1.package) fun x3 =>
(some (!(b_l1In a1.at_ 0 (IntKind.i64.wrap ((x3.instances.length : Int) - 1)))))))) fun b1 =>
(cnd b1 (
(some ((TInstance.mk [] [] (TType.mk 0 [] []) [] false false (TType.mk 0 [] []) []), false))) (
bnd (at? a0.packages a1.package) fun x5 =>
bnd (at? x5.instances a1.at_) fun x6 =>
(some (x6, true))))
set_option maxHeartbeats 4000000 in
theorem w_sInstAt (a0 : TProgram) (a1 : TInstanceRef) {r : TInstance × Bool} (h : b_sInstAt a0 a1 = some r) : SpecP Tryz.prog 37 [.d (eProgram a0), .d (eInstanceRef a1)] [eInstance r.1, .b r.2] := by
  obtain ⟨a0_0⟩ := a0
  obtain ⟨a1_0, a1_1⟩ := a1
  unfold b_sInstAt at h
  refine SpecP_intro Tryz.func37 rfl (by kernel_rfl) rfl fun A _ => ?_
  refine goNL ?_
  obtain ⟨b1, hb1, h⟩ := bnd_s h
  refine V_seqJ_draw (P := Tryz.prog) Mix.h ⟨[(2, .ptr 0 0), (3, .ptr 1 0), (4, .ptr 2 0), (28, .d (.b b1))], [.box [.d (.sl 6 (ePackages a0_0))], .box [.d (.i .i64 a1_0), .d (.i .i64 a1_1)], .box [.d (.s []), .nilsl, .d (.i .i64 0), .d (.s []), .nilsl, .nilsl, .d (.b false), .d (.b false), .d (.i .i64 0), .d (.s []), .nilsl, .nilsl]], Tryz.f37.ntmps⟩ (by kernel_rfl) ?_ ?_
  · refine goL ?_
    refine VQ_r (QR_ar) ?_
    refine VQ_r (QR_call (w_l1In a1_0 0 (IntKind.i64.wrap ((a0_0.length : Int) - 1)))) ?_
    refine goL ?_
    refine VQ_case 14 (fun c2 => ?_) (fun c2 => ?_)
    · replace hb1 := cnd_t c2 hb1
      refine goL ?_
      cases hb1
      exact ⟨rfl, ⟨⟨rfl, rfl⟩, ⟨rfl, rfl⟩, ⟨rfl, rfl⟩, ⟨rfl, rfl⟩, trivial⟩, ⟨[], rfl⟩, rfl⟩
    · replace hb1 := cnd_f c2 hb1
      refine goL ?_
      obtain ⟨x3, hx3, hb1⟩ := bnd_s hb1
      obtain ⟨hx30, hx3⟩ := at_s hx3
      obtain ⟨x3_0, x3_1, x3_2, x3_3, x3_4, x3_5⟩ := x3
      refine VQ_rg (QR_ixi hx30 (gPackage hx3)) ?_
      refine goL ?_
      refine VQ_rg (QR_ar) ?_
      refine VQ_rg (QR_call (w_l1In a1_1 0 (IntKind.i64.wrap ((x3_4.length : Int) - 1)))) ?_
      refine goL ?_
      cases hb1
      exact ⟨rfl, ⟨⟨rfl, rfl⟩, ⟨rfl, rfl⟩, ⟨rfl, rfl⟩, ⟨rfl, rfl⟩, trivial⟩, ⟨[], rfl⟩, rfl⟩
  refine goL ?_
  refine V_cb (fun c4 => ?_) (fun c4 => ?_)
  · replace h := cnd_t c4 h
    refine goL ?_
    refine VO_k (Q_build TBd.h TZ.h rfl (by repeat constructor)) ?_
    refine goL ?_
    refine V_ret ?_
    replace h := Option.some.inj h
    subst h
    exact R_rP
  · replace h := cnd_f c4 h
    refine V_skip ?_
    show V _ _ _ _ _
    refine V_seq_drawX (P := Tryz.prog) Mix.h [(0, true), (1, true), (2, true), (3, true), (4, true), (5, true), (6, true), (7, true), (8, true), (9, true), (10, true), (11, false), (12, true)] (by kernel_rfl) ?_
    refine goY ?_
    obtain ⟨x5, hx5, h⟩ := bnd_s h
    obtain ⟨hx50, hx5⟩ := at_s hx5
    obtain ⟨x5_0, x5_1, x5_2, x5_3, x5_4, x5_5⟩ := x5
    refine VY_ri rfl (QR_ixi hx50 (gPackage hx5)) ?_
    refine goY ?_
    obtain ⟨x6, hx6, h⟩ := bnd_s h
    obtain ⟨hx60, hx6⟩ := at_s hx6
    obtain ⟨x6_0, x6_1, ⟨x6_2_0, x6_2_1, x6_2_2⟩, x6_3, x6_4, x6_5, ⟨x6_6_0, x6_6_1, x6_6_2⟩, x6_7⟩ := x6
    refine VY_ri rfl (QR_ixi hx60 (gInstance hx6)) ?_
    refine goY ?_
    refine VY_nil ?_
    refine goL ?_
    refine V_ret ?_
    replace h := Option.some.inj h
    subst h
    exact R_rP
def b_sMeth_l1 (a1 : List UInt8) : List TMethod → Nat → Int
  | [], y1 => (-1)
  | x4 :: xs, y1 => (cnd (x4.name == a1) (
(y1 : Int)) (
b_sMeth_l1 a1 xs (y1 + 1)))
def b_sMeth (a0 : TInstance) (a1 : List UInt8) : Int :=
b_sMeth_l1 a1 a0.methods 0
set_option maxHeartbeats 4000000 in
theorem w_sMeth (a0 : TInstance) (a1 : List UInt8) : SpecP Tryz.prog 38 [.d (eInstance a0), .d (.s a1)] [.i .i64 (b_sMeth a0 a1)] := by
  obtain ⟨r, h⟩ : ∃ r, b_sMeth a0 a1 = r := ⟨_, rfl⟩
  rw [h]
  obtain ⟨a0_0, a0_1, ⟨a0_2_0, a0_2_1, a0_2_2⟩, a0_3, a0_4, a0_5, ⟨a0_6_0, a0_6_1, a0_6_2⟩, a0_7⟩ := a0
  unfold b_sMeth at h
  refine SpecP_intro Tryz.func38 rfl (by kernel_rfl) rfl fun A _ => ?_
  refine goL ?_
  refine V_block ?_
  show V _ _ _ _ _
  refine V_bdc 0 11 (fun z2 => ?_)
  refine V_loop1 (fun (y1 : Nat) => ⟨[(1, .d (.s a1)), (2, .ptr 0 0), (5, .d (.i .i64 (y1 : Int)))], [.box [.d (.s a0_0), .d (.sl 1 (eStrs a0_1)), .d (.i .i64 a0_2_0), .d (.s a0_2_1), .d (.sl 3 (eTypes a0_2_2)), .d (.sl 4 (eBounds a0_3)), .d (.b a0_4), .d (.b a0_5), .d (.i .i64 a0_6_0), .d (.s a0_6_1), .d (.sl 3 (eTypes a0_6_2)), .d (.sl 11 (eMethods a0_7))]], Tryz.f38.ntmps⟩) (fun y1 => b_sMeth_l1 a1 (a0_7.drop y1) y1 = r) (fun y1 => a0_7.length - y1) 0 ⟨rfl, ⟨⟨rfl, rfl⟩, ⟨rfl, rfl⟩, ⟨rfl, rfl⟩, trivial⟩, ⟨[], rfl⟩, rfl⟩ h ?_
  rintro y1 h
  refine goL ?_
  refine V_cb (fun c3 => ?_) (fun c3 => ?_)
  · have hky12 := kltN c3
    obtain ⟨x4, hx4, hdx4⟩ := drop_at hky12
    rw [hdx4, b_sMeth_l1.eq_2] at h
    obtain ⟨x4_0, x4_1, ⟨x4_2_0, x4_2_1, x4_2_2, x4_2_3, ⟨x4_2_4_0, x4_2_4_1, x4_2_4_2⟩, x4_2_5, x4_2_6⟩⟩ := x4
    refine V_skip ?_
    show V _ _ _ _ _
    refine V_seq (V_block ?_)
    refine goL ?_
    refine VO_r (QR_ixn y1 (gMethod hx4)) ?_
    refine goL ?_
    refine V_cb (fun c5 => ?_) (fun c5 => ?_)
    · replace h := cnd_t c5 h
      refine goL ?_
      refine V_ret ?_
      subst h
      exact R_rP
    · replace h := cnd_f c5 h
      refine V_skip ?_
      show V _ _ _ _ _
      refine goL ?_
      refine VO_r (QR_inc y1 (by omega)) ?_
      refine goL ?_
      exact ⟨(y1 + 1), h, by omega, ⟨rfl, ⟨⟨rfl, rfl⟩, ⟨rfl, rfl⟩, ⟨rfl, rfl⟩, trivial⟩, ⟨_, rfl⟩, rfl⟩⟩
  · have hky12 := kgeN c3
    rw [drop_end hky12, b_sMeth_l1.eq_1] at h
    refine V_exit ?_
    show V _ _ _ _ _
    refine goL ?_
    refine V_ret ?_
    subst h
    exact R_rP
def b_sFindU_l1 (a1 : Int) (a2 : Int) (a3 : Int) (a4 : Int) : List TUnit → Nat → Int
  | [], y1 => (-1)
  | x4 :: xs, y1 => lt_ ((cnd (x4.kind == a1) ((cnd (x4.package == a2) ((cnd (x4.at_ == a3) ((x4.sub == a4)) (false))) (false))) (false))) fun b5 =>
(cnd b5 (
(y1 : Int)) (
b_sFindU_l1 a1 a2 a3 a4 xs (y1 + 1)))
def b_sFindU (a0 : List TUnit) (a1 : Int) (a2 : Int) (a3 : Int) (a4 : Int) : Int :=
b_sFindU_l1 a1 a2 a3 a4 a0 0
set_option maxHeartbeats 4000000 in
theorem w_sFindU (a0 : List TUnit) (a1 : Int) (a2 : Int) (a3 : Int) (a4 : Int) : SpecP Tryz.prog 39 [.d (.sl 21 (eUnits a0)), .d (.i .i64 a1), .d (.i .i64 a2), .d (.i .i64 a3), .d (.i .i64 a4)] [.i .i64 (b_sFindU a0 a1 a2 a3 a4)] := by
  obtain ⟨r, h⟩ : ∃ r, b_sFindU a0 a1 a2 a3 a4 = r := ⟨_, rfl⟩
  rw [h]
  unfold b_sFindU at h
  refine SpecP_intro Tryz.func39 rfl (by kernel_rfl) rfl fun A _ => ?_
  refine goL ?_
  refine V_block ?_
  show V _ _ _ _ _
  refine V_bd 0 (fun z2 => ?_)
  refine V_loop1 (fun (y1 : Nat) => ⟨[(0, .d (.sl 21 (eUnits a0))), (1, .d (.i .i64 a1)), (2, .d (.i .i64 a2)), (3, .d (.i .i64 a3)), (4, .d (.i .i64 a4)), (11, .d (.i .i64 (y1 : Int)))], [], Tryz.f39.ntmps⟩) (fun y1 => b_sFindU_l1 a1 a2 a3 a4 (a0.drop y1) y1 = r) (fun y1 => a0.length - y1) 0 ⟨rfl, ⟨⟨rfl, rfl⟩, ⟨rfl, rfl⟩, ⟨rfl, rfl⟩, ⟨rfl, rfl⟩, ⟨rfl, rfl⟩, ⟨rfl, rfl⟩, trivial⟩, ⟨[], rfl⟩, rfl⟩ h ?_
  rintro y1 h
  refine goL ?_
  refine V_cb (fun c3 => ?_) (fun c3 => ?_)
  · have hky12 := kltN c3
    obtain ⟨x4, hx4, hdx4⟩ := drop_at hky12
    rw [hdx4, b_sFindU_l1.eq_2] at h
    obtain ⟨x4_0, x4_1, x4_2, x4_3, x4_4, x4_5, x4_6, ⟨x4_7_0, x4_7_1, x4_7_2⟩, ⟨x4_8_0, x4_8_1, x4_8_2, x4_8_3, ⟨x4_8_4_0, x4_8_4_1, x4_8_4_2⟩, x4_8_5, x4_8_6, x4_8_7, x4_8_8⟩⟩ := x4
    refine V_skip ?_
    show V _ _ _ _ _
    refine V_seq (V_block ?_)
    refine goL ?_
    refine VO_r (QR_ixn y1 (gUnit hx4)) ?_
    refine goL ?_
    obtain ⟨b5, hb5, h⟩ := lt_x h
    refine VO_join ⟨[(0, .d (.sl 21 (eUnits a0))), (1, .d (.i .i64 a1)), (2, .d (.i .i64 a2)), (3, .d (.i .i64 a3)), (4, .d (.i .i64 a4)), (11, .d (.i .i64 (y1 : Int))), (51, .d (.b b5))], [], Tryz.f39.ntmps⟩ ?_ ?_
    · refine VO_case 25 (fun c6 => ?_) (fun c6 => ?_)
      · replace hb5 := cnd_t c6 hb5
        refine goL ?_
        refine VO_b ?_
        refine VO_r (QR_ixn y1 (gUnit hx4)) ?_
        refine goL ?_
        refine VO_case 34 (fun c7 => ?_) (fun c7 => ?_)
        · replace hb5 := cnd_t c7 hb5
          refine goL ?_
          refine VO_b ?_
          refine VO_r (QR_ixn y1 (gUnit hx4)) ?_
          refine goL ?_
          refine VO_case 43 (fun c8 => ?_) (fun c8 => ?_)
          · replace hb5 := cnd_t c8 hb5
            refine goL ?_
            refine VO_b ?_
            refine VO_r (QR_ixn y1 (gUnit hx4)) ?_
            refine goL ?_
            cases hb5
            exact ⟨rfl, ⟨⟨rfl, rfl⟩, ⟨rfl, rfl⟩, ⟨rfl, rfl⟩, ⟨rfl, rfl⟩, ⟨rfl, rfl⟩, ⟨rfl, rfl⟩, ⟨rfl, rfl⟩, trivial⟩, ⟨[], rfl⟩, rfl⟩
          · replace hb5 := cnd_f c8 hb5
            refine goL ?_
            cases hb5
            exact ⟨rfl, ⟨⟨rfl, rfl⟩, ⟨rfl, rfl⟩, ⟨rfl, rfl⟩, ⟨rfl, rfl⟩, ⟨rfl, rfl⟩, ⟨rfl, rfl⟩, ⟨rfl, rfl⟩, trivial⟩, ⟨[], rfl⟩, rfl⟩
        · replace hb5 := cnd_f c7 hb5
          refine goL ?_
          cases hb5
          exact ⟨rfl, ⟨⟨rfl, rfl⟩, ⟨rfl, rfl⟩, ⟨rfl, rfl⟩, ⟨rfl, rfl⟩, ⟨rfl, rfl⟩, ⟨rfl, rfl⟩, ⟨rfl, rfl⟩, trivial⟩, ⟨[], rfl⟩, rfl⟩
      · replace hb5 := cnd_f c6 hb5
        refine goL ?_
        cases hb5
        exact ⟨rfl, ⟨⟨rfl, rfl⟩, ⟨rfl, rfl⟩, ⟨rfl, rfl⟩, ⟨rfl, rfl⟩, ⟨rfl, rfl⟩, ⟨rfl, rfl⟩, ⟨rfl, rfl⟩, trivial⟩, ⟨[], rfl⟩, rfl⟩
    refine goL ?_
    refine V_cb (fun c9 => ?_) (fun c9 => ?_)
    · replace h := cnd_t c9 h
      refine goL ?_
      refine V_ret ?_
      subst h
      exact R_rP
    · replace h := cnd_f c9 h
      refine V_skip ?_
      show V _ _ _ _ _
      refine goL ?_
      refine VO_r (QR_inc y1 (by omega)) ?_
      refine goL ?_
      exact ⟨(y1 + 1), h, by omega, ⟨rfl, ⟨⟨rfl, rfl⟩, ⟨rfl, rfl⟩, ⟨rfl, rfl⟩, ⟨rfl, rfl⟩, ⟨rfl, rfl⟩, ⟨rfl, rfl⟩, trivial⟩, ⟨_, rfl⟩, rfl⟩⟩
  · have hky12 := kgeN c3
    rw [drop_end hky12, b_sFindU_l1.eq_1] at h
    refine V_exit ?_
    show V _ _ _ _ _
    refine goL ?_
    refine V_ret ?_
    subst h
    exact R_rP
def b_sTrait_l2 (a1 : List UInt8) (y1 : Nat) (k2_0 : Int × Int) : List TTrait → Nat → Int × Int
  | [], y5 => k2_0
  | x8 :: xs, y5 => (cnd (x8.name == a1) (
((y1 : Int), (y5 : Int))) (
b_sTrait_l2 a1 y1 k2_0 xs (y5 + 1)))
def b_sTrait_l1 (a1 : List UInt8) : List TPackage → Nat → Int × Int
  | [], y1 => ((-1), (-1))
  | x4 :: xs, y1 => b_sTrait_l2 a1 y1 (b_sTrait_l1 a1 xs (y1 + 1)) x4.traits 0
def b_sTrait (a0 : TProgram) (a1 : List UInt8) : Int × Int :=
b_sTrait_l1 a1 a0.packages 0
set_option maxHeartbeats 4000000 in
theorem w_sTrait (a0 : TProgram) (a1 : List UInt8) : SpecP Tryz.prog 87 [.d (eProgram a0), .d (.s a1)] [.i .i64 (b_sTrait a0 a1).1, .i .i64 (b_sTrait a0 a1).2] := by
  obtain ⟨r, h⟩ : ∃ r, b_sTrait a0 a1 = r := ⟨_, rfl⟩
  rw [h]
  obtain ⟨a0_0⟩ := a0
  unfold b_sTrait at h
  refine SpecP_intro Tryz.func87 rfl (by kernel_rfl) rfl fun A _ => ?_
  refine goL ?_
  refine V_block ?_
  show V _ _ _ _ _
  refine V_bdc 0 0 (fun z2 => ?_)
  refine V_loop1 (fun (y1 : Nat) => ⟨[(1, .d (.s a1)), (2, .ptr 0 0), (6, .d (.i .i64 (y1 : Int)))], [.box [.d (.sl 6 (ePackages a0_0))]], Tryz.f87.ntmps⟩) (fun y1 => b_sTrait_l1 a1 (a0_0.drop y1) y1 = r) (fun y1 => a0_0.length - y1) 0 ⟨rfl, ⟨⟨rfl, rfl⟩, ⟨rfl, rfl⟩, ⟨rfl, rfl⟩, trivial⟩, ⟨[], rfl⟩, rfl⟩ h ?_
  rintro y1 h
  refine goL ?_
  refine V_cb (fun c3 => ?_) (fun c3 => ?_)
  · have hky12 := kltN c3
    obtain ⟨x4, hx4, hdx4⟩ := drop_at hky12
    rw [hdx4, b_sTrait_l1.eq_2] at h
    obtain ⟨x4_0, x4_1, x4_2, x4_3, x4_4, x4_5⟩ := x4
    refine V_skip ?_
    show V _ _ _ _ _
    refine V_seq (V_block ?_)
    refine goL ?_
    refine V_block ?_
    show V _ _ _ _ _
    refine V_loop1 (fun (y5 : Nat) => ⟨[(1, .d (.s a1)), (2, .ptr 0 0), (6, .d (.i .i64 (y1 : Int))), (7, .d (.i .i64 (y5 : Int)))], [.box [.d (.sl 6 (ePackages a0_0))]], Tryz.f87.ntmps⟩) (fun y5 => b_sTrait_l2 a1 y1 (b_sTrait_l1 a1 (a0_0.drop (y1 + 1)) (y1 + 1)) (x4_2.drop y5) y5 = r) (fun y5 => x4_2.length - y5) 0 ⟨rfl, ⟨⟨rfl, rfl⟩, ⟨rfl, rfl⟩, ⟨rfl, rfl⟩, ⟨rfl, rfl⟩, trivial⟩, ⟨[], rfl⟩, rfl⟩ h ?_
    rintro y5 h
    refine goL ?_
    refine VO_r (QR_ixn y1 (gPackage hx4)) ?_
    refine goL ?_
    refine V_cb (fun c6 => ?_) (fun c6 => ?_)
    · have hky52 := kltN c6
      refine V_bd 21 (fun z7 => ?_)
      obtain ⟨x8, hx8, hdx8⟩ := drop_at hky52
      rw [hdx8, b_sTrait_l2.eq_2] at h
      obtain ⟨x8_0, x8_1, x8_2, x8_3, x8_4⟩ := x8
      refine V_skip ?_
      show V _ _ _ _ _
      refine V_seq (V_block ?_)
      refine goL ?_
      refine VO_r (QR_ixn y1 (gPackage hx4)) ?_
      refine goL ?_
      refine VO_r (QR_ixn y5 (gTrait hx8)) ?_
      refine goL ?_
      refine V_cb (fun c9 => ?_) (fun c9 => ?_)
      · replace h := cnd_t c9 h
        refine goL ?_
        refine V_ret ?_
        subst h
        exact R_rP
      · replace h := cnd_f c9 h
        refine V_skip ?_
        show V _ _ _ _ _
        refine goL ?_
        refine VO_r (QR_inc y5 (by omega)) ?_
        refine goL ?_
        exact ⟨(y5 + 1), h, by omega, ⟨rfl, ⟨⟨rfl, rfl⟩, ⟨rfl, rfl⟩, ⟨rfl, rfl⟩, ⟨rfl, rfl⟩, trivial⟩, ⟨_, rfl⟩, rfl⟩⟩
    · have hky52 := kgeN c6
      rw [drop_end hky52, b_sTrait_l2.eq_1] at h
      refine V_exit ?_
      show V _ _ _ _ _
      refine goL ?_
      refine VO_r (QR_inc y1 (by omega)) ?_
      refine goL ?_
      exact ⟨(y1 + 1), h, by omega, ⟨rfl, ⟨⟨rfl, rfl⟩, ⟨rfl, rfl⟩, ⟨rfl, rfl⟩, trivial⟩, ⟨_, rfl⟩, rfl⟩⟩
  · have hky12 := kgeN c3
    rw [drop_end hky12, b_sTrait_l1.eq_1] at h
    refine V_exit ?_
    show V _ _ _ _ _
    refine goL ?_
    refine V_ret ?_
    subst h
    exact R_rP
def b_sDefault_l1 (a0 : TProgram) (a1 : List TUnit) (a3 : List UInt8) (x1 : Int × Int) : Nat → Int → Option (Int)
  | 0, y3 => none
  | n4 + 1, y3 => bnd (at? a0.packages x1.1) fun x5 =>
bnd (at? x5.traits x1.2) fun x6 =>
(cnd (decide (y3 < (x6.signatures.length : Int))) (
bnd (at? x6.signatures y3) fun x8 =>
(cnd (x8.name == a3) (
(some (b_sFindU a1 1 x1.1 x1.2 y3))) (
b_sDefault_l1 a0 a1 a3 x1 n4 (IntKind.i64.wrap (y3 + 1))))) (
(some (-1))))
def b_sDefault (a0 : TProgram) (a1 : List TUnit) (a2 : List UInt8) (a3 : List UInt8) (n0 : Nat) : Option (Int) :=
lt_ (b_sTrait a0 a2) fun x1 =>
(cnd (decide (x1.1 < 0)) (
(some (-1))) (
b_sDefault_l1 a0 a1 a3 x1 n0 0))
set_option maxHeartbeats 4000000 in
theorem w_sDefault (a0 : TProgram) (a1 : List TUnit) (a2 : List UInt8) (a3 : List UInt8) {n0 : Nat} {r : Int} (h : b_sDefault a0 a1 a2 a3 n0 = some r) : SpecP Tryz.prog 41 [.d (eProgram a0), .d (.sl 21 (eUnits a1)), .d (.s a2), .d (.s a3)] [.i .i64 r] := by
  obtain ⟨a0_0⟩ := a0
  unfold b_sDefault at h
  refine SpecP_intro Tryz.func41 rfl (by kernel_rfl) rfl fun A _ => ?_
  refine goL ?_
  obtain ⟨x1, hx1, h⟩ := lt_x h
  obtain ⟨x1_0, x1_1⟩ := x1
  have sx1 := w_sTrait (TProgram.mk a0_0) a2
  rw [hx1] at sx1
  refine VO_r (QR_call (sx1)) ?_
  refine goL ?_
  refine V_cb (fun c2 => ?_) (fun c2 => ?_)
  · replace h := cnd_t c2 h
    refine goL ?_
    refine V_ret ?_
    replace h := Option.some.inj h
    subst h
    exact R_rP
  · replace h := cnd_f c2 h
    refine V_skip ?_
    show V _ _ _ _ _
    refine goL ?_
    refine V_block ?_
    show V _ _ _ _ _
    refine V_loop2 (fun (n4 : Nat) (y3 : Int) => ⟨[(1, .d (.sl 21 (eUnits a1))), (3, .d (.s a3)), (4, .ptr 0 0), (9, .d (.i .i64 x1_0)), (10, .d (.i .i64 x1_1)), (11, .d (.i .i64 y3))], [.box [.d (.sl 6 (ePackages a0_0))]], Tryz.f41.ntmps⟩) (fun n4 y3 => b_sDefault_l1 (TProgram.mk a0_0) a1 a3 (x1_0, x1_1) n4 y3 = some r) (fun n4 y3 => n4) n0 0 ⟨rfl, ⟨⟨rfl, rfl⟩, ⟨rfl, rfl⟩, ⟨rfl, rfl⟩, ⟨rfl, rfl⟩, ⟨rfl, rfl⟩, ⟨rfl, rfl⟩, trivial⟩, ⟨[], rfl⟩, rfl⟩ h ?_
    rintro n4 y3 h
    rcases n4 with _ | n4
    · cases h
    rw [b_sDefault_l1.eq_2] at h
    refine goL ?_
    obtain ⟨x5, hx5, h⟩ := bnd_s h
    obtain ⟨hx50, hx5⟩ := at_s hx5
    obtain ⟨x5_0, x5_1, x5_2, x5_3, x5_4, x5_5⟩ := x5
    refine VO_r (QR_ixi hx50 (gPackage hx5)) ?_
    refine goL ?_
    obtain ⟨x6, hx6, h⟩ := bnd_s h
    obtain ⟨hx60, hx6⟩ := at_s hx6
    obtain ⟨x6_0, x6_1, x6_2, x6_3, x6_4⟩ := x6
    refine VO_r (QR_ixi hx60 (gTrait hx6)) ?_
    refine goL ?_
    refine V_cb (fun c7 => ?_) (fun c7 => ?_)
    · replace h := cnd_t c7 h
      refine V_skip ?_
      show V _ _ _ _ _
      refine V_seq (V_block ?_)
      refine goL ?_
      refine VO_r (QR_ixi hx50 (gPackage hx5)) ?_
      refine goL ?_
      refine VO_r (QR_ixi hx60 (gTrait hx6)) ?_
      refine goL ?_
      obtain ⟨x8, hx8, h⟩ := bnd_s h
      obtain ⟨hx80, hx8⟩ := at_s hx8
      obtain ⟨x8_0, x8_1, ⟨x8_2_0, x8_2_1, x8_2_2⟩, x8_3, x8_4, ⟨x8_5_0, x8_5_1, x8_5_2, x8_5_3, ⟨x8_5_4_0, x8_5_4_1, x8_5_4_2⟩, x8_5_5, x8_5_6⟩⟩ := x8
      refine VO_r (QR_ixi hx80 (gSignature hx8)) ?_
      refine goL ?_
      refine V_cb (fun c9 => ?_) (fun c9 => ?_)
      · replace h := cnd_t c9 h
        refine goL ?_
        refine VO_r (QR_call (w_sFindU a1 1 x1_0 x1_1 y3)) ?_
        refine goL ?_
        refine V_ret ?_
        replace h := Option.some.inj h
        subst h
        exact R_rP
      · replace h := cnd_f c9 h
        refine V_skip ?_
        show V _ _ _ _ _
        refine goL ?_
        refine VO_r (QR_ar) ?_
        refine goL ?_
        exact ⟨n4, (IntKind.i64.wrap (y3 + 1)), h, Nat.lt_succ_self _, ⟨rfl, ⟨⟨rfl, rfl⟩, ⟨rfl, rfl⟩, ⟨rfl, rfl⟩, ⟨rfl, rfl⟩, ⟨rfl, rfl⟩, ⟨rfl, rfl⟩, trivial⟩, ⟨_, rfl⟩, rfl⟩⟩
    · replace h := cnd_f c7 h
      refine V_exit ?_
      show V _ _ _ _ _
      refine goL ?_
      refine V_ret ?_
      replace h := Option.some.inj h
      subst h
      exact R_rP
/-! ### lookups, by hand -/
theorem wrap_small {m : Int} (h1 : -4611686018427387904 ≤ m) (h2 : m ≤ 4611686018427387904) : IntKind.i64.wrap m = m := wrap_in m (by omega) (by omega)
theorem methIx_eq (x : TInstance) (n : List UInt8) : b_methIx x n = some (b_sMeth x n) := by
  have h : ∀ (l : List TMethod) (k : Nat), b_IxMethod_l1 (fun z0 => some (b_methIx1 z0 n)) l k = some (b_sMeth_l1 n l k) := by
    intro l
    induction l with
    | nil => intro k; rfl
    | cons a l ih =>
      intro k
      simp only [b_IxMethod_l1, b_sMeth_l1, bnd, ih]
      simp only [b_methIx1]
      cases a.name == n <;> rfl
  unfold b_methIx b_IxMethod b_sMeth
  rw [h]
  rfl
theorem findU_eq (l : List TUnit) (a b c d : Int) : b_iFindU l a b c d = some (b_sFindU l a b c d) := by
  have h : ∀ (l : List TUnit) (k : Nat), b_IxUnit_l1 (fun z0 => some (b_findU1 z0 a b c d)) l k = some (b_sFindU_l1 a b c d l k) := by
    intro l
    induction l with
    | nil => intro k; rfl
    | cons x l ih =>
      intro k
      simp only [b_IxUnit_l1, b_sFindU_l1, bnd, ih]
      simp only [b_findU1, lt_]
      cases (cnd (x.kind == a) (cnd (x.package == b) (cnd (x.at_ == c) (x.sub == d) false) false) false) <;> rfl
  unfold b_iFindU b_IxUnit b_sFindU
  rw [h]
  rfl
def tIx (n : List UInt8) : List TTrait → Nat → Int
  | [], _ => -1
  | x :: xs, k => cnd (x.name == n) (k : Int) (tIx n xs (k + 1))
def tIxP (p : TPackage) (n : List UInt8) : Int := tIx n p.traits 0
theorem traitIx_eq (p : TPackage) (n : List UInt8) : b_traitIx p n = some (tIxP p n) := by
  have h : ∀ (l : List TTrait) (k : Nat), b_IxTrait_l1 (fun z0 => some (b_traitIx1 z0 n)) l k = some (tIx n l k) := by
    intro l
    induction l with
    | nil => intro k; rfl
    | cons a l ih =>
      intro k
      simp only [b_IxTrait_l1, tIx, bnd, ih]
      simp only [b_traitIx1]
      cases a.name == n <;> rfl
  unfold b_traitIx b_IxTrait tIxP
  rw [h]
  rfl
theorem at_none {α : Type} {l : List α} {i : Int} (h : i < 0 ∨ i ≥ (l.length : Int)) : at? l i = none := by
  unfold at?
  split
  · exact List.getElem?_eq_none (by omega)
  · rfl
theorem at_ex {α : Type} {l : List α} {i : Int} (h0 : ¬ i < 0) (h1 : ¬ i ≥ (l.length : Int)) : ∃ x, at? l i = some x ∧ x ∈ l := by
  have h : i.toNat < l.length := by omega
  refine ⟨l[i.toNat], ?_, List.getElem_mem h⟩
  unfold at?
  rw [if_pos (by omega), List.getElem?_eq_getElem h]
def instZ : TInstance × Bool := (TInstance.mk [] [] (TType.mk 0 [] []) [] false false (TType.mk 0 [] []) [], false)
def instF (w : TProgram) (o : TInstanceRef) : TInstance × Bool := match at? w.packages o.package with
  | none => instZ
  | some p => match at? p.instances o.at_ with
    | none => instZ
    | some x => (x, true)
theorem iInst_eq (w : TProgram) (o : TInstanceRef) : b_iInst w o = some (instF w o) := by
  unfold b_iInst instF
  by_cases h1 : o.package < 0
  · rw [decide_eq_true h1, at_none (.inl h1)]; rfl
  rw [decide_eq_false h1]
  by_cases h2 : o.package ≥ (w.packages.length : Int)
  · rw [decide_eq_true h2, at_none (.inr h2)]; rfl
  rw [decide_eq_false h2]
  obtain ⟨p, hp, _⟩ := at_ex h1 h2
  rw [hp]
  by_cases h3 : o.at_ < 0
  · rw [decide_eq_true h3]
    simp only [bnd, cnd_true, cnd_false]
    rw [at_none (.inl h3)]; rfl
  rw [decide_eq_false h3]
  by_cases h4 : o.at_ ≥ (p.instances.length : Int)
  · simp only [bnd, cnd_true, cnd_false]
    rw [decide_eq_true h4, at_none (.inr h4)]; rfl
  · simp only [bnd, cnd_true, cnd_false]
    rw [decide_eq_false h4]
    obtain ⟨x, hx, _⟩ := at_ex h3 h4
    rw [hx]; rfl
theorem l1In_eq (a c : Int) : b_l1In a 0 c = decide (0 ≤ a ∧ a ≤ c) := by
  unfold b_l1In lt_
  by_cases h : a ≥ 0
  · rw [decide_eq_true h]
    by_cases h2 : a ≤ c
    · rw [decide_eq_true h2, decide_eq_true ⟨h, h2⟩]; rfl
    · rw [decide_eq_false h2, decide_eq_false (fun h3 : 0 ≤ a ∧ a ≤ c => h2 h3.2)]; rfl
  · rw [decide_eq_false h, decide_eq_false (fun h3 : 0 ≤ a ∧ a ≤ c => h h3.1)]; rfl
theorem sInstAt_eq (w : TProgram) (o : TInstanceRef) (h0 : w.packages.length ≤ 4294967296) (h : ∀ p ∈ w.packages, p.instances.length ≤ 4294967296) : b_sInstAt w o = some (instF w o) := by
  unfold b_sInstAt instF
  rw [wrap_small (by omega) (by omega), l1In_eq]
  by_cases h1 : o.package < 0
  · rw [decide_eq_false (by omega), at_none (.inl h1)]; rfl
  by_cases h2 : o.package ≥ (w.packages.length : Int)
  · rw [decide_eq_false (by omega), at_none (.inr h2)]; rfl
  obtain ⟨p, hp, hm⟩ := at_ex h1 h2
  rw [hp, decide_eq_true (by omega)]
  have h5 := h p hm
  simp only [bnd, Bool.not_true, cnd_false]
  rw [wrap_small (by omega) (by omega), l1In_eq]
  by_cases h3 : o.at_ < 0
  · rw [decide_eq_false (by omega), at_none (.inl h3)]; rfl
  by_cases h4 : o.at_ ≥ (p.instances.length : Int)
  · rw [decide_eq_false (by omega), at_none (.inr h4)]; rfl
  obtain ⟨x, hx, _⟩ := at_ex h3 h4
  rw [hx, decide_eq_true (by omega)]; rfl
/-- Both searches for a trait, in one package. -/
theorem trait_l2 (n : List UInt8) (y : Nat) (kI : TTrait × Int × Bool) (kS : Int × Int) : ∀ (ts : List TTrait) (k : Nat), (∃ (j : Nat) (t : TTrait), ts[j]? = some t ∧ b_iTrait_l2 n y kI ts = (t, (y : Int), true) ∧ b_sTrait_l2 n y kS ts k = ((y : Int), ((k + j : Nat) : Int)) ∧ tIx n ts k = ((k + j : Nat) : Int)) ∨ (b_iTrait_l2 n y kI ts = kI ∧ b_sTrait_l2 n y kS ts k = kS)
  | [], k => .inr ⟨rfl, rfl⟩
  | t :: ts, k => by
    simp only [b_iTrait_l2, b_sTrait_l2, tIx]
    cases h : t.name == n with
    | true => exact .inl ⟨0, t, rfl, rfl, rfl, rfl⟩
    | false =>
      rcases trait_l2 n y kI kS ts (k + 1) with ⟨j, t', h1, h2, h3, h4⟩ | ⟨h1, h2⟩
      · exact .inl ⟨j + 1, t', h1, h2, by rw [cnd_false, h3, show k + 1 + j = k + (j + 1) by omega], by rw [cnd_false, h4, show k + 1 + j = k + (j + 1) by omega]⟩
      · exact .inr ⟨h1, h2⟩
def traitZ : TTrait × Int × Bool := (TTrait.mk [] [] false false [], 0, false)
theorem trait_l1 (n : List UInt8) : ∀ (ps : List TPackage) (y : Nat), (∃ (i j : Nat) (p : TPackage) (t : TTrait), ps[i]? = some p ∧ p.traits[j]? = some t ∧ b_iTrait_l1 n ps y = (t, ((y + i : Nat) : Int), true) ∧ b_sTrait_l1 n ps y = (((y + i : Nat) : Int), (j : Int)) ∧ tIxP p n = (j : Int)) ∨ (b_iTrait_l1 n ps y = traitZ ∧ b_sTrait_l1 n ps y = (-1, -1))
  | [], y => .inr ⟨rfl, rfl⟩
  | p :: ps, y => by
    simp only [b_iTrait_l1, b_sTrait_l1]
    rcases trait_l2 n y (b_iTrait_l1 n ps (y + 1)) (b_sTrait_l1 n ps (y + 1)) p.traits 0 with ⟨j, t, h1, h2, h3, h4⟩ | ⟨h1, h2⟩
    · exact .inl ⟨0, j, p, t, rfl, h1, h2, by rw [h3, Nat.zero_add]; rfl, by unfold tIxP; rw [h4, Nat.zero_add]⟩
    · rw [h1, h2]
      rcases trait_l1 n ps (y + 1) with ⟨i, j, p', t, k1, k2, k3, k4, k5⟩ | ⟨k1, k2⟩
      · exact .inl ⟨i + 1, j, p', t, k1, k2, by rw [k3, show y + 1 + i = y + (i + 1) by omega], by rw [k4, show y + 1 + i = y + (i + 1) by omega], k5⟩
      · exact .inr ⟨k1, k2⟩
/-- The unit of a default body, -1 if there is none. -/
def dflF (w : TProgram) (l : List TUnit) (tn n : List UInt8) : Int := cnd ((b_iTrait w tn).2.2 && (b_iSig (b_iTrait w tn).1 n).2.2) (b_sFindU l 1 (b_iTrait w tn).2.1 (b_sTrait w tn).2 (b_iSig (b_iTrait w tn).1 n).2.1) (-1)
theorem sDefault_l1_eq (w : TProgram) (l : List TUnit) (n : List UInt8) (x : Int × Int) {p : TPackage} {t : TTrait} (hp : at? w.packages x.1 = some p) (ht : at? p.traits x.2 = some t) (hl : t.signatures.length ≤ 4294967296) : ∀ (xs : List TSignature) (m k : Nat), t.signatures.drop k = xs → xs.length < m → k ≤ t.signatures.length → b_sDefault_l1 w l n x m (k : Int) = some (cnd (b_iSig_l1 n xs k).2.2 (b_sFindU l 1 x.1 x.2 (b_iSig_l1 n xs k).2.1) (-1))
  | [], m + 1, k, h, _, hk => by
    have hk2 : t.signatures.length ≤ k := List.drop_eq_nil_iff.1 h
    simp only [b_sDefault_l1, hp, ht, bnd]
    rw [decide_eq_false (by omega)]
    rfl
  | s :: xs, m + 1, k, h, hm, hk => by
    simp only [List.length_cons] at hm
    have hk2 : k < t.signatures.length := by
      have := congrArg List.length h
      simp only [List.length_drop, List.length_cons] at this
      omega
    obtain ⟨s', h1, h2⟩ := drop_at hk2
    rw [h2, List.cons.injEq] at h
    obtain ⟨rfl, h3⟩ := h
    simp only [b_sDefault_l1, hp, ht, bnd]
    rw [decide_eq_true (by omega), cnd_true, at_nat, h1]
    simp only [b_iSig_l1]
    have e : IntKind.i64.wrap ((k : Int) + 1) = ((k + 1 : Nat) : Int) := by rw [wrap_small (by omega) (by omega)]; rfl
    rw [e]
    cases hs : s'.name == n with
    | true => rfl
    | false => exact sDefault_l1_eq w l n x hp ht hl xs m (k + 1) h3 (by omega) hk2
theorem sDefault_eq (w : TProgram) (l : List TUnit) (tn n : List UInt8) (h : ∀ p ∈ w.packages, ∀ t ∈ p.traits, t.signatures.length ≤ 4294967296) : b_sDefault w l tn n 4294967297 = some (dflF w l tn n) := by
  unfold b_sDefault dflF lt_
  rcases trait_l1 tn w.packages 0 with ⟨i, j, p, t, h1, h2, h3, h4, h5⟩ | ⟨h1, h2⟩
  · have e1 : b_iTrait w tn = (t, (i : Int), true) := by rw [Nat.zero_add] at h3; exact h3
    have e2 : b_sTrait w tn = ((i : Int), (j : Int)) := by rw [Nat.zero_add] at h4; exact h4
    have hs := h p (List.mem_of_getElem? h1) t (List.mem_of_getElem? h2)
    rw [e1, e2]
    simp only
    rw [decide_eq_false (by omega), cnd_false]
    rw [show ((0 : Int)) = ((0 : Nat) : Int) from rfl, sDefault_l1_eq w l n _ (p := p) (t := t) (by simp only; rw [at_nat]; exact h1) (by simp only; rw [at_nat]; exact h2) hs t.signatures 4294967297 0 rfl (by omega) (by omega)]
    unfold b_iSig
    cases (b_iSig_l1 n t.signatures 0).2.2 <;> rfl
  · have e1 : b_iTrait w tn = traitZ := h1
    have e2 : b_sTrait w tn = (-1, -1) := h2
    rw [e1, e2]
    rfl
end Go.Proofs.YthojhakapbfbiaaGreat
