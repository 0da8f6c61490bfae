/- Mt2. Written by a program of mine (aw.py). -/
import Derived.Test.YtihihldpcgiibaaGreatFacts
import Derived.Test.YtihihldpcgiibaaGreatMt1
set_option linter.unusedVariables false
set_option linter.unusedSimpArgs false
set_option linter.unusedSectionVars false
namespace Go.Proofs.YtihihldpcgiibaaGreat
open Go Go.Eng
attribute [local irreducible] V VO VQ VY Quiet QR SpecP SpecO MSpec Rng PostP PostO PostG
def b_iTrait_l2 (a1 : List UInt8) (y1 : Nat) (k2_0 : TTrait × Int × Bool) : List TTrait → TTrait × Int × Bool
  | [] => k2_0
  | x8 :: xs => (cnd (x8.name == a1) (
(x8, (y1 : Int), true)) (
b_iTrait_l2 a1 y1 k2_0 xs ))
def b_iTrait_l1 (a1 : List UInt8) : List TPackage → Nat → TTrait × Int × Bool
  | [], y1 => ((TTrait.mk [] [] false false []), 0, false)
  | x4 :: xs, y1 => b_iTrait_l2 a1 y1 (b_iTrait_l1 a1 xs (y1 + 1)) x4.traits 
def b_iTrait (a0 : TProgram) (a1 : List UInt8) : TTrait × Int × Bool :=
b_iTrait_l1 a1 a0.packages 0
set_option maxHeartbeats 4000000 in
theorem w_iTrait (a0 : TProgram) (a1 : List UInt8) : SpecP Tryz.prog 54 [.d (eProgram a0), .d (.s a1)] [eTrait (b_iTrait a0 a1).1, .i .i64 (b_iTrait a0 a1).2.1, .b (b_iTrait a0 a1).2.2] := by
  obtain ⟨r, h⟩ : ∃ r, b_iTrait a0 a1 = r := ⟨_, rfl⟩
  rw [h]
  obtain ⟨a0_0⟩ := a0
  unfold b_iTrait at h
  refine SpecP_intro Tryz.func54 rfl (by kernel_rfl) rfl fun A _ => ?_
  refine goL ?_
  refine V_block ?_
  show V _ _ _ _ _
  refine V_bd 12 (fun z2 => ?_)
  refine V_loop1 (fun (y1 : Nat) => ⟨[(1, .d (.s a1)), (4, .ptr 1 0), (12, .d (.sl 6 (ePackages a0_0))), (13, .d (.i .i64 (a0_0.length : Int))), (14, .d (.i .i64 (y1 : Int)))], [.box [.d (.sl 6 (ePackages a0_0))], .box [.d (.s []), .nilsl, .d (.b false), .d (.b false), .nilsl]], Tryz.f54.ntmps⟩) (fun y1 => b_iTrait_l1 a1 (a0_0.drop y1) y1 = r) (fun y1 => a0_0.length - y1) 0 ⟨rfl, ⟨⟨rfl, rfl⟩, ⟨rfl, rfl⟩, ⟨rfl, rfl⟩, ⟨rfl, rfl⟩, ⟨rfl, rfl⟩, trivial⟩, ⟨[], rfl⟩, rfl⟩ h ?_
  rintro y1 h
  refine goL ?_
  refine V_seq (V_cb (fun c3 => ?_) (fun c3 => ?_))
  · have hky12 := kltN c3
    obtain ⟨x4, hx4, hdx4⟩ := drop_at hky12
    rw [hdx4, b_iTrait_l1.eq_2] at h
    obtain ⟨x4_0, x4_1, x4_2, x4_3, x4_4, x4_5⟩ := x4
    refine V_skip ?_
    show V _ _ _ _ _
    refine V_seq (V_block ?_)
    refine goL ?_
    refine VO_r (QR_ixn y1 (gPackage hx4)) ?_
    refine goL ?_
    refine V_block ?_
    show V _ _ _ _ _
    refine V_bd 20 (fun z6 => ?_)
    refine V_loop1 (fun (y5 : Nat) => ⟨[(1, .d (.s a1)), (4, .ptr 1 0), (7, .d (.i .i64 (y1 : Int))), (12, .d (.sl 6 (ePackages a0_0))), (13, .d (.i .i64 (a0_0.length : Int))), (14, .d (.i .i64 (y1 : Int))), (20, .d (.sl 5 (eTraits x4_2))), (21, .d (.i .i64 (x4_2.length : Int))), (22, .d (.i .i64 (y5 : Int)))], [.box [.d (.sl 6 (ePackages a0_0))], .box [.d (.s []), .nilsl, .d (.b false), .d (.b false), .nilsl], .box [.d (.s x4_0), .d (.sl 1 (eStrs x4_1)), .d (.sl 5 (eTraits x4_2)), .d (.sl 3 (eDataTypes x4_3)), .d (.sl 12 (eInstances x4_4)), .d (.sl 16 (eFunctions x4_5))]], Tryz.f54.ntmps⟩) (fun y5 => b_iTrait_l2 a1 y1 (b_iTrait_l1 a1 (a0_0.drop (y1 + 1)) (y1 + 1)) (x4_2.drop y5)  = r) (fun y5 => x4_2.length - y5) 0 ⟨rfl, ⟨⟨rfl, rfl⟩, ⟨rfl, rfl⟩, ⟨rfl, rfl⟩, ⟨rfl, rfl⟩, ⟨rfl, rfl⟩, ⟨rfl, rfl⟩, ⟨rfl, rfl⟩, ⟨rfl, rfl⟩, ⟨rfl, rfl⟩, trivial⟩, ⟨[], rfl⟩, rfl⟩ h ?_
    rintro y5 h
    refine goL ?_
    refine V_seq (V_cb (fun c7 => ?_) (fun c7 => ?_))
    · have hky52 := kltN c7
      obtain ⟨x8, hx8, hdx8⟩ := drop_at hky52
      rw [hdx8, b_iTrait_l2.eq_2] at h
      obtain ⟨x8_0, x8_1, x8_2, x8_3, x8_4⟩ := x8
      refine V_skip ?_
      show V _ _ _ _ _
      refine V_seq (V_block ?_)
      refine goL ?_
      refine VO_r (QR_ixn y5 (gTrait hx8)) ?_
      refine goL ?_
      refine V_cb (fun c9 => ?_) (fun c9 => ?_)
      · replace h := cnd_t c9 h
        refine goL ?_
        refine V_ret ?_
        subst h
        exact R_rP
      · replace h := cnd_f c9 h
        refine V_skip ?_
        show V _ _ _ _ _
        refine goL ?_
        refine VO_r (QR_inc y5 (by omega)) ?_
        refine goL ?_
        exact ⟨(y5 + 1), h, by omega, ⟨rfl, ⟨⟨rfl, rfl⟩, ⟨rfl, rfl⟩, ⟨rfl, rfl⟩, ⟨rfl, rfl⟩, ⟨rfl, rfl⟩, ⟨rfl, rfl⟩, ⟨rfl, rfl⟩, ⟨rfl, rfl⟩, ⟨rfl, rfl⟩, trivial⟩, ⟨_, rfl⟩, rfl⟩⟩
    · have hky52 := kgeN c7
      rw [drop_end hky52, b_iTrait_l2.eq_1] at h
      refine V_exit ?_
      show V _ _ _ _ _
      refine goL ?_
      refine VO_r (QR_inc y1 (by omega)) ?_
      refine goL ?_
      exact ⟨(y1 + 1), h, by omega, ⟨rfl, ⟨⟨rfl, rfl⟩, ⟨rfl, rfl⟩, ⟨rfl, rfl⟩, ⟨rfl, rfl⟩, ⟨rfl, rfl⟩, trivial⟩, ⟨_, rfl⟩, rfl⟩⟩
  · have hky12 := kgeN c3
    rw [drop_end hky12, b_iTrait_l1.eq_1] at h
    refine V_exit ?_
    show V _ _ _ _ _
    refine goL ?_
    refine VO_k (Q_build TBd.h TZ.h rfl (by repeat constructor)) ?_
    refine goL ?_
    refine V_ret ?_
    subst h
    exact R_rP
def b_sTraitAt_l2 (a1 : List UInt8) (y1 : Nat) (k2_0 : TTrait × Int × Bool) : List TTrait → TTrait × Int × Bool
  | [] => k2_0
  | x8 :: xs => (cnd (x8.name == a1) (
(x8, (y1 : Int), true)) (
b_sTraitAt_l2 a1 y1 k2_0 xs ))
def b_sTraitAt_l1 (a1 : List UInt8) : List TPackage → Nat → TTrait × Int × Bool
  | [], y1 => ((TTrait.mk [] [] false false []), 0, false)
  | x4 :: xs, y1 => b_sTraitAt_l2 a1 y1 (b_sTraitAt_l1 a1 xs (y1 + 1)) x4.traits 
def b_sTraitAt (a0 : TProgram) (a1 : List UInt8) : TTrait × Int × Bool :=
b_sTraitAt_l1 a1 a0.packages 0
set_option maxHeartbeats 4000000 in
theorem w_sTraitAt (a0 : TProgram) (a1 : List UInt8) : SpecP Tryz.prog 47 [.d (eProgram a0), .d (.s a1)] [eTrait (b_sTraitAt a0 a1).1, .i .i64 (b_sTraitAt a0 a1).2.1, .b (b_sTraitAt a0 a1).2.2] := by
  obtain ⟨r, h⟩ : ∃ r, b_sTraitAt a0 a1 = r := ⟨_, rfl⟩
  rw [h]
  obtain ⟨a0_0⟩ := a0
  unfold b_sTraitAt at h
  refine SpecP_intro Tryz.func47 rfl (by kernel_rfl) rfl fun A _ => ?_
  refine goL ?_
  refine V_block ?_
  show V _ _ _ _ _
  refine V_bdc 0 0 (fun z2 => ?_)
  refine V_loop1 (fun (y1 : Nat) => ⟨[(1, .d (.s a1)), (2, .ptr 0 0), (4, .ptr 1 0), (7, .d (.i .i64 (y1 : Int)))], [.box [.d (.sl 6 (ePackages a0_0))], .box [.d (.s []), .nilsl, .d (.b false), .d (.b false), .nilsl]], Tryz.f47.ntmps⟩) (fun y1 => b_sTraitAt_l1 a1 (a0_0.drop y1) y1 = r) (fun y1 => a0_0.length - y1) 0 ⟨rfl, ⟨⟨rfl, rfl⟩, ⟨rfl, rfl⟩, ⟨rfl, rfl⟩, ⟨rfl, rfl⟩, trivial⟩, ⟨[], rfl⟩, rfl⟩ h ?_
  rintro y1 h
  refine goL ?_
  refine V_cb (fun c3 => ?_) (fun c3 => ?_)
  · have hky12 := kltN c3
    obtain ⟨x4, hx4, hdx4⟩ := drop_at hky12
    rw [hdx4, b_sTraitAt_l1.eq_2] at h
    obtain ⟨x4_0, x4_1, x4_2, x4_3, x4_4, x4_5⟩ := x4
    refine V_skip ?_
    show V _ _ _ _ _
    refine V_seq (V_block ?_)
    refine goL ?_
    refine V_block ?_
    show V _ _ _ _ _
    refine V_loop1 (fun (y5 : Nat) => ⟨[(1, .d (.s a1)), (2, .ptr 0 0), (4, .ptr 1 0), (7, .d (.i .i64 (y1 : Int))), (8, .d (.i .i64 (y5 : Int)))], [.box [.d (.sl 6 (ePackages a0_0))], .box [.d (.s []), .nilsl, .d (.b false), .d (.b false), .nilsl]], Tryz.f47.ntmps⟩) (fun y5 => b_sTraitAt_l2 a1 y1 (b_sTraitAt_l1 a1 (a0_0.drop (y1 + 1)) (y1 + 1)) (x4_2.drop y5)  = r) (fun y5 => x4_2.length - y5) 0 ⟨rfl, ⟨⟨rfl, rfl⟩, ⟨rfl, rfl⟩, ⟨rfl, rfl⟩, ⟨rfl, rfl⟩, ⟨rfl, rfl⟩, trivial⟩, ⟨[], rfl⟩, rfl⟩ h ?_
    rintro y5 h
    refine goL ?_
    refine VO_r (QR_ixn y1 (gPackage hx4)) ?_
    refine goL ?_
    refine V_cb (fun c6 => ?_) (fun c6 => ?_)
    · have hky52 := kltN c6
      refine V_bd 22 (fun z7 => ?_)
      obtain ⟨x8, hx8, hdx8⟩ := drop_at hky52
      rw [hdx8, b_sTraitAt_l2.eq_2] at h
      obtain ⟨x8_0, x8_1, x8_2, x8_3, x8_4⟩ := x8
      refine V_skip ?_
      show V _ _ _ _ _
      refine V_seq (V_block ?_)
      refine goL ?_
      refine VO_r (QR_ixn y1 (gPackage hx4)) ?_
      refine goL ?_
      refine VO_r (QR_ixn y5 (gTrait hx8)) ?_
      refine goL ?_
      refine V_cb (fun c9 => ?_) (fun c9 => ?_)
      · replace h := cnd_t c9 h
        refine goL ?_
        refine VO_r (QR_ixn y1 (gPackage hx4)) ?_
        refine goL ?_
        refine VO_r (QR_ixn y5 (gTrait hx8)) ?_
        refine goL ?_
        refine V_ret ?_
        subst h
        exact R_rP
      · replace h := cnd_f c9 h
        refine V_skip ?_
        show V _ _ _ _ _
        refine goL ?_
        refine VO_r (QR_inc y5 (by omega)) ?_
        refine goL ?_
        exact ⟨(y5 + 1), h, by omega, ⟨rfl, ⟨⟨rfl, rfl⟩, ⟨rfl, rfl⟩, ⟨rfl, rfl⟩, ⟨rfl, rfl⟩, ⟨rfl, rfl⟩, trivial⟩, ⟨_, rfl⟩, rfl⟩⟩
    · have hky52 := kgeN c6
      rw [drop_end hky52, b_sTraitAt_l2.eq_1] at h
      refine V_exit ?_
      show V _ _ _ _ _
      refine goL ?_
      refine VO_r (QR_inc y1 (by omega)) ?_
      refine goL ?_
      exact ⟨(y1 + 1), h, by omega, ⟨rfl, ⟨⟨rfl, rfl⟩, ⟨rfl, rfl⟩, ⟨rfl, rfl⟩, ⟨rfl, rfl⟩, trivial⟩, ⟨_, rfl⟩, rfl⟩⟩
  · have hky12 := kgeN c3
    rw [drop_end hky12, b_sTraitAt_l1.eq_1] at h
    refine V_exit ?_
    show V _ _ _ _ _
    refine goL ?_
    refine VO_k (Q_build TBd.h TZ.h rfl (by repeat constructor)) ?_
    refine goL ?_
    refine V_ret ?_
    subst h
    exact R_rP
def b_iSig_l1 (a1 : List UInt8) : List TSignature → Nat → TSignature × Int × Bool
  | [], y1 => ((TSignature.mk [] [] (TType.mk 0 [] []) false [] (TExpr.mk 0 [] [] 0 (TType.mk 0 [] []) [] [])), 0, false)
  | x4 :: xs, y1 => (cnd (x4.name == a1) (
(x4, (y1 : Int), true)) (
b_iSig_l1 a1 xs (y1 + 1)))
def b_iSig (a0 : TTrait) (a1 : List UInt8) : TSignature × Int × Bool :=
b_iSig_l1 a1 a0.signatures 0
set_option maxHeartbeats 4000000 in
theorem w_iSig (a0 : TTrait) (a1 : List UInt8) : SpecP Tryz.prog 67 [.d (eTrait a0), .d (.s a1)] [eSignature (b_iSig a0 a1).1, .i .i64 (b_iSig a0 a1).2.1, .b (b_iSig a0 a1).2.2] := by
  obtain ⟨r, h⟩ : ∃ r, b_iSig a0 a1 = r := ⟨_, rfl⟩
  rw [h]
  obtain ⟨a0_0, a0_1, a0_2, a0_3, a0_4⟩ := a0
  unfold b_iSig at h
  refine SpecP_intro Tryz.func67 rfl (by kernel_rfl) rfl fun A _ => ?_
  refine goL ?_
  refine V_block ?_
  show V _ _ _ _ _
  refine V_bd 10 (fun z2 => ?_)
  refine V_loop1 (fun (y1 : Nat) => ⟨[(1, .d (.s a1)), (4, .ptr 1 0), (10, .d (.sl 16 (eSignatures a0_4))), (11, .d (.i .i64 (a0_4.length : Int))), (12, .d (.i .i64 (y1 : Int)))], [.box [.d (.s a0_0), .d (.sl 1 (eStrs a0_1)), .d (.b a0_2), .d (.b a0_3), .d (.sl 16 (eSignatures a0_4))], .box [.d (.s []), .nilsl, .d (.i .i64 0), .d (.s []), .nilsl, .d (.b false), .nilsl, .d (.i .i64 0), .d (.s []), .d (.s []), .d (.i .i64 0), .d (.i .i64 0), .d (.s []), .nilsl, .nilsl, .nilsl]], Tryz.f67.ntmps⟩) (fun y1 => b_iSig_l1 a1 (a0_4.drop y1) y1 = r) (fun y1 => a0_4.length - y1) 0 ⟨rfl, ⟨⟨rfl, rfl⟩, ⟨rfl, rfl⟩, ⟨rfl, rfl⟩, ⟨rfl, rfl⟩, ⟨rfl, rfl⟩, trivial⟩, ⟨[], rfl⟩, rfl⟩ h ?_
  rintro y1 h
  refine goL ?_
  refine V_seq (V_cb (fun c3 => ?_) (fun c3 => ?_))
  · have hky12 := kltN c3
    obtain ⟨x4, hx4, hdx4⟩ := drop_at hky12
    rw [hdx4, b_iSig_l1.eq_2] at h
    obtain ⟨x4_0, x4_1, ⟨x4_2_0, x4_2_1, x4_2_2⟩, x4_3, x4_4, ⟨x4_5_0, x4_5_1, x4_5_2, x4_5_3, ⟨x4_5_4_0, x4_5_4_1, x4_5_4_2⟩, x4_5_5, x4_5_6⟩⟩ := x4
    refine V_skip ?_
    show V _ _ _ _ _
    refine V_seq (V_block ?_)
    refine goL ?_
    refine VO_r (QR_ixn y1 (gSignature hx4)) ?_
    refine goL ?_
    refine V_cb (fun c5 => ?_) (fun c5 => ?_)
    · replace h := cnd_t c5 h
      refine goL ?_
      refine V_ret ?_
      subst h
      exact R_rP
    · replace h := cnd_f c5 h
      refine V_skip ?_
      show V _ _ _ _ _
      refine goL ?_
      refine VO_r (QR_inc y1 (by omega)) ?_
      refine goL ?_
      exact ⟨(y1 + 1), h, by omega, ⟨rfl, ⟨⟨rfl, rfl⟩, ⟨rfl, rfl⟩, ⟨rfl, rfl⟩, ⟨rfl, rfl⟩, ⟨rfl, rfl⟩, trivial⟩, ⟨_, rfl⟩, rfl⟩⟩
  · have hky12 := kgeN c3
    rw [drop_end hky12, b_iSig_l1.eq_1] at h
    refine V_exit ?_
    show V _ _ _ _ _
    refine goL ?_
    refine VO_k (Q_build TBd.h TZ.h rfl (by repeat constructor)) ?_
    refine goL ?_
    refine V_ret ?_
    subst h
    exact R_rP
def b_sSig_l1 (a1 : List UInt8) : List TSignature → TSignature × Bool
  | [] => ((TSignature.mk [] [] (TType.mk 0 [] []) false [] (TExpr.mk 0 [] [] 0 (TType.mk 0 [] []) [] [])), false)
  | x4 :: xs => (cnd (x4.name == a1) (
(x4, true)) (
b_sSig_l1 a1 xs ))
def b_sSig (a0 : TTrait) (a1 : List UInt8) : TSignature × Bool :=
b_sSig_l1 a1 a0.signatures 
set_option maxHeartbeats 4000000 in
theorem w_sSig (a0 : TTrait) (a1 : List UInt8) : SpecP Tryz.prog 63 [.d (eTrait a0), .d (.s a1)] [eSignature (b_sSig a0 a1).1, .b (b_sSig a0 a1).2] := by
  obtain ⟨r, h⟩ : ∃ r, b_sSig a0 a1 = r := ⟨_, rfl⟩
  rw [h]
  obtain ⟨a0_0, a0_1, a0_2, a0_3, a0_4⟩ := a0
  unfold b_sSig at h
  refine SpecP_intro Tryz.func63 rfl (by kernel_rfl) rfl fun A _ => ?_
  refine goL ?_
  refine V_block ?_
  show V _ _ _ _ _
  refine V_bdc 0 4 (fun z2 => ?_)
  refine V_loop1 (fun (y1 : Nat) => ⟨[(1, .d (.s a1)), (2, .ptr 0 0), (4, .ptr 1 0), (6, .d (.i .i64 (y1 : Int)))], [.box [.d (.s a0_0), .d (.sl 1 (eStrs a0_1)), .d (.b a0_2), .d (.b a0_3), .d (.sl 16 (eSignatures a0_4))], .box [.d (.s []), .nilsl, .d (.i .i64 0), .d (.s []), .nilsl, .d (.b false), .nilsl, .d (.i .i64 0), .d (.s []), .d (.s []), .d (.i .i64 0), .d (.i .i64 0), .d (.s []), .nilsl, .nilsl, .nilsl]], Tryz.f63.ntmps⟩) (fun y1 => b_sSig_l1 a1 (a0_4.drop y1)  = r) (fun y1 => a0_4.length - y1) 0 ⟨rfl, ⟨⟨rfl, rfl⟩, ⟨rfl, rfl⟩, ⟨rfl, rfl⟩, ⟨rfl, rfl⟩, trivial⟩, ⟨[], rfl⟩, rfl⟩ h ?_
  rintro y1 h
  refine goL ?_
  refine V_cb (fun c3 => ?_) (fun c3 => ?_)
  · have hky12 := kltN c3
    obtain ⟨x4, hx4, hdx4⟩ := drop_at hky12
    rw [hdx4, b_sSig_l1.eq_2] at h
    obtain ⟨x4_0, x4_1, ⟨x4_2_0, x4_2_1, x4_2_2⟩, x4_3, x4_4, ⟨x4_5_0, x4_5_1, x4_5_2, x4_5_3, ⟨x4_5_4_0, x4_5_4_1, x4_5_4_2⟩, x4_5_5, x4_5_6⟩⟩ := x4
    refine V_skip ?_
    show V _ _ _ _ _
    refine V_seq (V_block ?_)
    refine goL ?_
    refine VO_r (QR_ixn y1 (gSignature hx4)) ?_
    refine goL ?_
    refine V_cb (fun c5 => ?_) (fun c5 => ?_)
    · replace h := cnd_t c5 h
      refine goL ?_
      refine VO_r (QR_ixn y1 (gSignature hx4)) ?_
      refine goL ?_
      refine V_ret ?_
      subst h
      exact R_rP
    · replace h := cnd_f c5 h
      refine V_skip ?_
      show V _ _ _ _ _
      refine goL ?_
      refine VO_r (QR_inc y1 (by omega)) ?_
      refine goL ?_
      exact ⟨(y1 + 1), h, by omega, ⟨rfl, ⟨⟨rfl, rfl⟩, ⟨rfl, rfl⟩, ⟨rfl, rfl⟩, ⟨rfl, rfl⟩, trivial⟩, ⟨_, rfl⟩, rfl⟩⟩
  · have hky12 := kgeN c3
    rw [drop_end hky12, b_sSig_l1.eq_1] at h
    refine V_exit ?_
    show V _ _ _ _ _
    refine goL ?_
    refine VO_k (Q_build TBd.h TZ.h rfl (by repeat constructor)) ?_
    refine goL ?_
    refine V_ret ?_
    subst h
    exact R_rP
def b_methodTypes (a0 : TSignature) (a1 : TType) : Option (List TType × TType) :=
gd (bok [(TBinding.mk [115, 101, 108, 102] a1)] ∧ tsok a0.params) (lt_ (apTs [(TBinding.mk [115, 101, 108, 102] a1)] a0.params) fun x2 =>
gd (bok [(TBinding.mk [115, 101, 108, 102] a1)] ∧ tok a0.result) (lt_ (apT [(TBinding.mk [115, 101, 108, 102] a1)] a0.result) fun x4 =>
(some (x2, x4))))
set_option maxHeartbeats 4000000 in
theorem w_methodTypes (a0 : TSignature) (a1 : TType) {r : List TType × TType} (h : b_methodTypes a0 a1 = some r) : SpecO Tryz.prog 68 [.d (eSignature a0), .d (eType a1)] [39, 39] [.sl 3 (eTypes r.1), eType r.2] := by
  obtain ⟨a0_0, a0_1, ⟨a0_2_0, a0_2_1, a0_2_2⟩, a0_3, a0_4, ⟨a0_5_0, a0_5_1, a0_5_2, a0_5_3, ⟨a0_5_4_0, a0_5_4_1, a0_5_4_2⟩, a0_5_5, a0_5_6⟩⟩ := a0
  obtain ⟨a1_0, a1_1, a1_2⟩ := a1
  unfold b_methodTypes at h
  refine SpecO_intro Tryz.func68 rfl (by kernel_rfl) rfl (by simp) fun A _ => ?_
  refine goL ?_
  refine VO_k (Q_build TBd.h TZ.h rfl (by repeat constructor)) ?_
  refine VO_la1 (u := (.st [.s [115, 101, 108, 102], .st [.i .i64 a1_0, .s a1_1, .sl 3 (eTypes a1_2)]])) ?_
  refine goNL ?_
  refine V_freeze 3 rfl rfl ?_
  refine V_seq_drawX (P := Tryz.prog) Mix.h [(0, true), (1, true), (2, true), (4, true), (5, true), (6, true), (3, false), (7, false), (8, true), (9, false)] (by kernel_rfl) ?_
  refine goY ?_
  obtain ⟨g1, h⟩ := gd_s h
  obtain ⟨x2, hx2, h⟩ := lt_x h
  have sx2 := t_iApplyAll [(TBinding.mk [115, 101, 108, 102] (TType.mk a1_0 a1_1 a1_2))] a0_1 g1
  rw [hx2] at sx2
  refine VY_co (sx2) ?_
  obtain ⟨g3, h⟩ := gd_s h
  obtain ⟨x4, hx4, h⟩ := lt_x h
  obtain ⟨x4_0, x4_1, x4_2⟩ := x4
  have sx4 := t_iApply [(TBinding.mk [115, 101, 108, 102] (TType.mk a1_0 a1_1 a1_2))] (TType.mk a0_2_0 a0_2_1 a0_2_2) g3
  rw [hx4] at sx4
  refine VY_co (sx4) ?_
  refine goY ?_
  refine VY_nil ?_
  refine goL ?_
  refine V_ret ?_
  replace h := Option.some.inj h
  subst h
  exact R_rO
def b_iMT (a0 : TProgram) (a1 : List UInt8) (a2 : List UInt8) (a3 : TType) : Option (List TType × TType × Bool) :=
lt_ (b_iTrait a0 a1) fun x1 =>
lt_ (b_iSig x1.1 a2) fun x2 =>
(cnd (!x2.2.2) (
(some ([], (TType.mk 0 [] []), false))) (
bnd (b_methodTypes x2.1 a3) fun x4 =>
(some (x4.1, x4.2, true))))
set_option maxHeartbeats 4000000 in
theorem w_iMT (a0 : TProgram) (a1 : List UInt8) (a2 : List UInt8) (a3 : TType) {r : List TType × TType × Bool} (h : b_iMT a0 a1 a2 a3 = some r) : SpecO Tryz.prog 20 [.d (eProgram a0), .d (.s a1), .d (.s a2), .d (eType a3)] [39, 39] [.sl 3 (eTypes r.1), eType r.2.1, .b r.2.2] := by
  obtain ⟨a0_0⟩ := a0
  obtain ⟨a3_0, a3_1, a3_2⟩ := a3
  unfold b_iMT at h
  refine SpecO_intro Tryz.func20 rfl (by kernel_rfl) rfl (by simp) fun A _ => ?_
  refine goL ?_
  obtain ⟨x1, hx1, h⟩ := lt_x h
  obtain ⟨⟨x1_0_0, x1_0_1, x1_0_2, x1_0_3, x1_0_4⟩, x1_1, x1_2⟩ := x1
  have sx1 := w_iTrait (TProgram.mk a0_0) a1
  rw [hx1] at sx1
  refine VO_r (QR_call (sx1)) ?_
  refine goL ?_
  obtain ⟨x2, hx2, h⟩ := lt_x h
  obtain ⟨⟨x2_0_0, x2_0_1, ⟨x2_0_2_0, x2_0_2_1, x2_0_2_2⟩, x2_0_3, x2_0_4, ⟨x2_0_5_0, x2_0_5_1, x2_0_5_2, x2_0_5_3, ⟨x2_0_5_4_0, x2_0_5_4_1, x2_0_5_4_2⟩, x2_0_5_5, x2_0_5_6⟩⟩, x2_1, x2_2⟩ := x2
  have sx2 := w_iSig (TTrait.mk x1_0_0 x1_0_1 x1_0_2 x1_0_3 x1_0_4) a2
  rw [hx2] at sx2
  refine VO_r (QR_call (sx2)) ?_
  refine goL ?_
  refine V_cb (fun c3 => ?_) (fun c3 => ?_)
  · replace h := cnd_t c3 h
    refine goL ?_
    refine VO_k (Q_build TBd.h TZ.h rfl (by repeat constructor)) ?_
    refine goL ?_
    refine V_adT 39 3 8 ?_
    refine V_adopt 39 3 2 2 rfl rfl (by repeat constructor) (by repeat constructor) (by repeat constructor) (by repeat constructor) ?_
    refine V_ret ?_
    replace h := Option.some.inj h
    subst h
    exact R_rO
  · replace h := cnd_f c3 h
    refine V_skip ?_
    show V _ _ _ _ _
    refine goL ?_
    obtain ⟨x4, hx4, h⟩ := bnd_s h
    obtain ⟨x4_0, ⟨x4_1_0, x4_1_1, x4_1_2⟩⟩ := x4
    refine VO_co (w_methodTypes (TSignature.mk x2_0_0 x2_0_1 (TType.mk x2_0_2_0 x2_0_2_1 x2_0_2_2) x2_0_3 x2_0_4 (TExpr.mk x2_0_5_0 x2_0_5_1 x2_0_5_2 x2_0_5_3 (TType.mk x2_0_5_4_0 x2_0_5_4_1 x2_0_5_4_2) x2_0_5_5 x2_0_5_6)) (TType.mk a3_0 a3_1 a3_2) hx4) ?_
    refine goNL ?_
    refine V_seq_drawX (P := Tryz.prog) Mix.h [(0, true), (1, true), (2, true), (3, false), (4, true)] (by kernel_rfl) ?_
    refine goY ?_
    refine VY_nil ?_
    refine goL ?_
    refine V_ret ?_
    replace h := Option.some.inj h
    subst h
    exact R_rO
def b_sMT (a0 : TProgram) (a1 : List UInt8) (a2 : List UInt8) (a3 : TType) : Option (List TType × TType × Bool) :=
lt_ (b_sTraitAt a0 a1) fun x1 =>
lt_ (b_sSig x1.1 a2) fun x2 =>
(cnd (!x2.2) (
(some ([], (TType.mk 0 [] []), false))) (
gd (bok [(TBinding.mk [115, 101, 108, 102] a3)] ∧ tsok x2.1.params) (lt_ (apTs [(TBinding.mk [115, 101, 108, 102] a3)] x2.1.params) fun x5 =>
gd (bok [(TBinding.mk [115, 101, 108, 102] a3)] ∧ tok x2.1.result) (lt_ (apT [(TBinding.mk [115, 101, 108, 102] a3)] x2.1.result) fun x7 =>
(some (x5, x7, true))))))
set_option maxHeartbeats 4000000 in
theorem w_sMT (a0 : TProgram) (a1 : List UInt8) (a2 : List UInt8) (a3 : TType) {r : List TType × TType × Bool} (h : b_sMT a0 a1 a2 a3 = some r) : SpecO Tryz.prog 18 [.d (eProgram a0), .d (.s a1), .d (.s a2), .d (eType a3)] [39, 39] [.sl 3 (eTypes r.1), eType r.2.1, .b r.2.2] := by
  obtain ⟨a0_0⟩ := a0
  obtain ⟨a3_0, a3_1, a3_2⟩ := a3
  unfold b_sMT at h
  refine SpecO_intro Tryz.func18 rfl (by kernel_rfl) rfl (by simp) fun A _ => ?_
  refine goL ?_
  obtain ⟨x1, hx1, h⟩ := lt_x h
  obtain ⟨⟨x1_0_0, x1_0_1, x1_0_2, x1_0_3, x1_0_4⟩, x1_1, x1_2⟩ := x1
  have sx1 := w_sTraitAt (TProgram.mk a0_0) a1
  rw [hx1] at sx1
  refine VO_r (QR_call (sx1)) ?_
  refine goL ?_
  obtain ⟨x2, hx2, h⟩ := lt_x h
  obtain ⟨⟨x2_0_0, x2_0_1, ⟨x2_0_2_0, x2_0_2_1, x2_0_2_2⟩, x2_0_3, x2_0_4, ⟨x2_0_5_0, x2_0_5_1, x2_0_5_2, x2_0_5_3, ⟨x2_0_5_4_0, x2_0_5_4_1, x2_0_5_4_2⟩, x2_0_5_5, x2_0_5_6⟩⟩, x2_1⟩ := x2
  have sx2 := w_sSig (TTrait.mk x1_0_0 x1_0_1 x1_0_2 x1_0_3 x1_0_4) a2
  rw [hx2] at sx2
  refine VO_r (QR_call (sx2)) ?_
  refine goL ?_
  refine V_cb (fun c3 => ?_) (fun c3 => ?_)
  · replace h := cnd_t c3 h
    refine goL ?_
    refine VO_l0 ?_
    refine VO_k (Q_build TBd.h TZ.h rfl (by repeat constructor)) ?_
    refine goL ?_
    refine V_adopt 39 3 2 2 rfl rfl (by repeat constructor) (by repeat constructor) (by repeat constructor) (by repeat constructor) ?_
    refine V_ret ?_
    replace h := Option.some.inj h
    subst h
    exact R_rO
  · replace h := cnd_f c3 h
    refine V_skip ?_
    show V _ _ _ _ _
    refine goL ?_
    refine VO_k (Q_build TBd.h TZ.h rfl (by repeat constructor)) ?_
    refine VO_la1 (u := (.st [.s [115, 101, 108, 102], .st [.i .i64 a3_0, .s a3_1, .sl 3 (eTypes a3_2)]])) ?_
    refine goNL ?_
    refine V_freeze 5 rfl rfl ?_
    refine V_seq_drawX (P := Tryz.prog) Mix.h [(0, true), (1, true), (2, true), (4, true), (5, true), (6, true), (3, false), (7, false), (8, true), (9, false), (10, true)] (by kernel_rfl) ?_
    refine goY ?_
    obtain ⟨g4, h⟩ := gd_s h
    obtain ⟨x5, hx5, h⟩ := lt_x h
    have sx5 := t_sApplyAll [(TBinding.mk [115, 101, 108, 102] (TType.mk a3_0 a3_1 a3_2))] x2_0_1 g4
    rw [hx5] at sx5
    refine VY_co (sx5) ?_
    obtain ⟨g6, h⟩ := gd_s h
    obtain ⟨x7, hx7, h⟩ := lt_x h
    obtain ⟨x7_0, x7_1, x7_2⟩ := x7
    have sx7 := t_sApply [(TBinding.mk [115, 101, 108, 102] (TType.mk a3_0 a3_1 a3_2))] (TType.mk x2_0_2_0 x2_0_2_1 x2_0_2_2) g6
    rw [hx7] at sx7
    refine VY_co (sx7) ?_
    refine goY ?_
    refine VY_nil ?_
    refine goL ?_
    refine V_ret ?_
    replace h := Option.some.inj h
    subst h
    exact R_rO
/-! ### MethodType, by hand -/
theorem traitAt_l2_eq (s : List UInt8) (k : Nat) (e : TTrait × Int × Bool) : ∀ (l : List TTrait), b_sTraitAt_l2 s k e l = b_iTrait_l2 s k e l
  | [] => rfl
  | x :: l => by simp only [b_sTraitAt_l2, b_iTrait_l2, traitAt_l2_eq s k e l]
theorem traitAt_l1_eq (s : List UInt8) : ∀ (l : List TPackage) (k : Nat), b_sTraitAt_l1 s l k = b_iTrait_l1 s l k
  | [], k => rfl
  | x :: l, k => by simp only [b_sTraitAt_l1, b_iTrait_l1, traitAt_l1_eq s l (k + 1), traitAt_l2_eq]
theorem traitAt_eq (w : TProgram) (s : List UInt8) : b_sTraitAt w s = b_iTrait w s := traitAt_l1_eq s w.packages 0
theorem sig_l1_eq (s : List UInt8) : ∀ (l : List TSignature) (k : Nat), b_sSig_l1 s l = ((b_iSig_l1 s l k).1, (b_iSig_l1 s l k).2.2)
  | [], k => rfl
  | x :: l, k => by
    simp only [b_sSig_l1, b_iSig_l1, sig_l1_eq s l (k + 1)]
    cases x.name == s <;> rfl
theorem sig_eq (t : TTrait) (s : List UInt8) : b_sSig t s = ((b_iSig t s).1, (b_iSig t s).2.2) := sig_l1_eq s t.signatures 0
theorem iTrait_l2_P {P : TTrait → Prop} (s : List UInt8) (k : Nat) {e : TTrait × Int × Bool} (he : P e.1) : ∀ (l : List TTrait), (∀ t ∈ l, P t) → P (b_iTrait_l2 s k e l).1
  | [], _ => he
  | x :: l, h => by
    simp only [b_iTrait_l2]
    cases x.name == s with
    | true => exact h x (by simp)
    | false => exact iTrait_l2_P s k he l (fun t ht => h t (by simp [ht]))
theorem iTrait_l1_P {P : TTrait → Prop} (s : List UInt8) (h0 : P ⟨[], [], false, false, []⟩) : ∀ (l : List TPackage) (k : Nat), (∀ p ∈ l, ∀ t ∈ p.traits, P t) → P (b_iTrait_l1 s l k).1
  | [], k, _ => h0
  | x :: l, k, h => by
    simp only [b_iTrait_l1]
    exact iTrait_l2_P s k (iTrait_l1_P s h0 l (k + 1) (fun p hp => h p (by simp [hp]))) _ (h x (by simp))
theorem iSig_l1_P {P : TSignature → Prop} (s : List UInt8) : ∀ (l : List TSignature) (k : Nat), (∀ g ∈ l, P g) → (b_iSig_l1 s l k).2.2 = true → P (b_iSig_l1 s l k).1
  | [], k, _, h => by cases h
  | x :: l, k, hp, h => by
    simp only [b_iSig_l1] at h ⊢
    cases hx : x.name == s with
    | true => exact hp x (by simp)
    | false =>
      rw [hx] at h
      exact iSig_l1_P s l (k + 1) (fun g hg => hp g (by simp [hg])) h
/-- The signature that is asked for. -/
def sgn (w : TProgram) (s n : List UInt8) : TSignature × Int × Bool := b_iSig (b_iTrait w s).1 n
theorem sgn_P {P : TSignature → Prop} {w : TProgram} {s n : List UInt8} (h : ∀ p ∈ w.packages, ∀ t ∈ p.traits, ∀ g ∈ t.signatures, P g) (hf : (sgn w s n).2.2 = true) : P (sgn w s n).1 :=
  iSig_l1_P n _ 0 (iTrait_l1_P (P := fun t => ∀ g ∈ t.signatures, P g) s (by simp) w.packages 0 h) hf
def selfB (t : TType) : List TBinding := [⟨[115, 101, 108, 102], t⟩]
def mtF (w : TProgram) (s n : List UInt8) (t : TType) : List TType × TType × Bool := cnd (!(sgn w s n).2.2) ([], ⟨0, [], []⟩, false) (apTs (selfB t) (sgn w s n).1.params, apT (selfB t) (sgn w s n).1.result, true)
theorem iMT_eq (w : TProgram) (s n : List UInt8) (t : TType) (ht : tok t) (h : (sgn w s n).2.2 = true → tsok (sgn w s n).1.params ∧ tok (sgn w s n).1.result) : b_iMT w s n t = some (mtF w s n t) := by
  have hb : bok (selfB t) := by intro b hb; simp only [selfB, List.mem_singleton] at hb; subst hb; exact ht
  unfold b_iMT mtF
  simp only [lt_]
  show cnd (!(sgn w s n).2.2) _ (bnd (b_methodTypes (sgn w s n).1 t) _) = _
  cases hf : (sgn w s n).2.2 with
  | false => rfl
  | true =>
    obtain ⟨h1, h2⟩ := h hf
    have hb' : bok [⟨[115, 101, 108, 102], t⟩] := hb
    unfold b_methodTypes
    simp only [Bool.not_true, cnd_false]
    rw [gd_eq ⟨hb', h1⟩]
    simp only [lt_]
    rw [gd_eq ⟨hb', h2⟩]
    rfl
theorem sMT_eq (w : TProgram) (s n : List UInt8) (t : TType) (ht : tok t) (h : (sgn w s n).2.2 = true → tsok (sgn w s n).1.params ∧ tok (sgn w s n).1.result) : b_sMT w s n t = some (mtF w s n t) := by
  have hb : bok (selfB t) := by intro b hb; simp only [selfB, List.mem_singleton] at hb; subst hb; exact ht
  unfold b_sMT mtF
  simp only [lt_, traitAt_eq, sig_eq]
  show cnd (!(sgn w s n).2.2) _ _ = _
  cases hf : (sgn w s n).2.2 with
  | false => rfl
  | true =>
    obtain ⟨h1, h2⟩ := h hf
    have hb' : bok [⟨[115, 101, 108, 102], t⟩] := hb
    simp only [Bool.not_true, cnd_false]
    show gd (bok [⟨[115, 101, 108, 102], t⟩] ∧ tsok (sgn w s n).1.params) (gd (bok [⟨[115, 101, 108, 102], t⟩] ∧ tok (sgn w s n).1.result) _) = _
    rw [gd_eq ⟨hb', h1⟩, gd_eq ⟨hb', h2⟩]
    rfl
section
variable {B : Nat} {l : List TBinding} (hl : ∀ b ∈ l, W (eType b.type_) ≤ B)
include hl
theorem ap1_W (t : TType) : W (eType (apT l t)) ≤ W (eType t) * (B + 1) + B := by
  have h1 := apT_W hl t
  have h2 : tnd t * B ≤ (1 + W (eType t)) * B := Nat.mul_le_mul_right B (tnd_W t)
  rw [Nat.add_mul, Nat.one_mul] at h2
  rw [Nat.mul_add, Nat.mul_one]
  omega
theorem aps_W (ts : List TType) : ts.length + Ws (eTypes (apTs l ts)) ≤ (ts.length + Ws (eTypes ts)) * (B + 1) := by
  have h1 := apTs_W hl ts
  have h2 : tnds ts * B ≤ (ts.length + Ws (eTypes ts)) * B := Nat.mul_le_mul_right B (tnds_W ts)
  rw [Nat.mul_add, Nat.mul_one]
  omega
end
theorem sig_in {w : TProgram} {P : TSignature → Prop} (h : wt (.st 15) (eProgram w)) (hp : ∀ g, wt (.st 5) (eSignature g) → W (eSignature g) ≤ W (eProgram w) → P g) : ∀ p ∈ w.packages, ∀ t ∈ p.traits, ∀ g ∈ t.signatures, P g := by
  obtain ⟨ps⟩ := w
  obtain ⟨us, e, _, h1⟩ := inv_Program h
  simp only [eProgram, U.st.injEq, List.cons.injEq, U.sl.injEq, true_and, and_true] at e
  subst e
  intro p hp1 t ht g hg
  have m1 : ePackage p ∈ ePackages ps := by rw [show ePackages ps = ps.map ePackage from Enc.h ps]; exact List.mem_map_of_mem hp1
  have w1 := W_le_of_mem m1
  obtain ⟨f0, f1, f2, f3, f4, f5⟩ := p
  obtain ⟨q0, q1, q2, q3, q4, q5, e, _, _, h2, _⟩ := inv_Package (h1 _ m1)
  simp only [ePackage, U.st.injEq, List.cons.injEq, U.sl.injEq, U.s.injEq, true_and, and_true] at e
  obtain ⟨_, _, rfl, _⟩ := e
  have m2 : eTrait t ∈ eTraits f2 := by rw [show eTraits f2 = f2.map eTrait from Enc.h f2]; exact List.mem_map_of_mem ht
  have w2 := W_le_of_mem m2
  obtain ⟨g0, g1, g2, g3, g4⟩ := t
  obtain ⟨r0, r1, r2, r3, r4, e, _, _, h3⟩ := inv_Trait (h2.2 _ m2)
  simp only [eTrait, U.st.injEq, List.cons.injEq, U.sl.injEq, U.s.injEq, U.b.injEq, true_and, and_true] at e
  obtain ⟨_, _, _, _, rfl⟩ := e
  have m3 : eSignature g ∈ eSignatures g4 := by rw [show eSignatures g4 = g4.map eSignature from Enc.h g4]; exact List.mem_map_of_mem hg
  have w3 := W_le_of_mem m3
  refine hp g (h3.2 _ m3) ?_
  simp only [ePackage, eTrait, eProgram, W, Ws] at w1 w2 ⊢
  omega
theorem sig_wt {g : TSignature} (h : wt (.st 5) (eSignature g)) : (g.params.length ≤ big ∧ ∀ t ∈ g.params, twt t) ∧ twt g.result := by
  obtain ⟨f0, f1, f2, f3, f4, f5⟩ := g
  obtain ⟨q0, q1, q2, q3, q4, q5, e, _, h1, h2, _⟩ := inv_Signature h
  simp only [eSignature, U.st.injEq, List.cons.injEq, U.sl.injEq, U.s.injEq, U.b.injEq, true_and, and_true] at e
  obtain ⟨_, rfl, rfl, _⟩ := e
  rw [eTypes_map] at h1
  refine ⟨⟨by simpa using h1.1, fun t ht => h1.2 _ (List.mem_map_of_mem ht)⟩, h2⟩
theorem sig_W (g : TSignature) : g.params.length + Ws (eTypes g.params) ≤ W (eSignature g) ∧ W (eType g.result) ≤ W (eSignature g) := by
  obtain ⟨f0, f1, f2, f3, f4, f5⟩ := g
  have e2 : (eTypes f1).length = f1.length := Enc.len f1
  simp only [eSignature, W, Ws]
  omega
theorem bothMT {u v : U} {s n : List UInt8} (h : wt (.st 15) u) (hs : s.length ≤ big) (hn : n.length ≤ big) (h2 : wt (.st 1) v) : ∃ (r0 : List U) (r1 : U) (r2 : Bool), (r0.length ≤ big ∧ ∀ x ∈ r0, wt (.st 1) x) ∧ wt (.st 1) r1 ∧ (W u ≤ 1048576 → W v ≤ 1048576 → SpecP Tryz.prog 18 [.d u, .d (.s s), .d (.s n), .d v] [.sl 3 r0, r1, .b r2] ∧ SpecO Tryz.prog 20 [.d u, .d (.s s), .d (.s n), .d v] [39, 39] [.sl 3 r0, r1, .b r2] ∧ W (.sl 3 r0) ≤ 1125899906842624 ∧ W r1 ≤ 1125899906842624) := by
  obtain ⟨w, rfl⟩ := ofProgram u h
  obtain ⟨t, rfl⟩ := ofType v h2
  have htw : ∀ b ∈ selfB t, twt b.type_ := by intro b hb; simp only [selfB, List.mem_singleton] at hb; subst hb; exact h2
  have hz : twt ⟨0, [], []⟩ := twt_iff.2 ⟨by simp [inRange], by simp, by simp, by simp⟩
  have hg : (sgn w s n).2.2 = true → ((sgn w s n).1.params.length ≤ big ∧ ∀ t ∈ (sgn w s n).1.params, twt t) ∧ twt (sgn w s n).1.result := fun hf => sgn_P (sig_in h fun g hg _ => sig_wt hg) hf
  refine ⟨eTypes (mtF w s n t).1, eType (mtF w s n t).2.1, (mtF w s n t).2.2, ?_, ?_, fun hw hw2 => ?_⟩
  · unfold mtF
    cases hf : (sgn w s n).2.2 with
    | false => simp only [Bool.not_false, cnd_true, eTypes]; exact ⟨by simp, by simp⟩
    | true =>
      obtain ⟨⟨g1, g2⟩, g3⟩ := hg hf
      simp only [Bool.not_true, cnd_false]
      rw [eTypes_map]
      refine ⟨by rw [List.length_map, apTs_len]; exact g1, fun x hx => ?_⟩
      obtain ⟨y, hy, rfl⟩ := List.mem_map.1 hx
      exact apTs_twt htw _ g2 y hy
  · unfold mtF
    cases hf : (sgn w s n).2.2 with
    | false => exact hz
    | true => exact apT_twt htw _ (hg hf).2
  · have ht : tok t := tok_W t (by omega)
    have hW : (sgn w s n).2.2 = true → W (eSignature (sgn w s n).1) ≤ 1048576 := fun hf => sgn_P (sig_in h fun g _ hg => Nat.le_trans hg hw) hf
    have hk : (sgn w s n).2.2 = true → tsok (sgn w s n).1.params ∧ tok (sgn w s n).1.result := fun hf => by
      have k1 := hW hf
      have k2 := sig_W (sgn w s n).1
      exact ⟨⟨by omega, tall_W _ (by omega)⟩, tok_W _ (by omega)⟩
    have hB : ∀ b ∈ selfB t, W (eType b.type_) ≤ 1048576 := by intro b hb; simp only [selfB, List.mem_singleton] at hb; subst hb; exact hw2
    refine ⟨(w_sMT w s n t (sMT_eq w s n t ht hk)).p, w_iMT w s n t (iMT_eq w s n t ht hk), ?_, ?_⟩
    · unfold mtF
      cases hf : (sgn w s n).2.2 with
      | false => simp only [Bool.not_false, cnd_true, eTypes, W, Ws, List.length_nil]; omega
      | true =>
        have k1 := hW hf
        have k2 := sig_W (sgn w s n).1
        have k3 := aps_W hB (sgn w s n).1.params
        simp only [Bool.not_true, cnd_false, W]
        have e1 : (eTypes (apTs (selfB t) (sgn w s n).1.params)).length = (sgn w s n).1.params.length := by rw [eTypes_map, List.length_map, apTs_len]
        omega
    · unfold mtF
      cases hf : (sgn w s n).2.2 with
      | false => simp only [Bool.not_false, cnd_true, eType, eTypes, W, Ws, List.length_nil]; omega
      | true =>
        have k1 := hW hf
        have k2 := sig_W (sgn w s n).1
        have k3 := ap1_W hB (sgn w s n).1.result
        simp only [Bool.not_true, cnd_false]
        omega

end Go.Proofs.YtihihldpcgiibaaGreat
