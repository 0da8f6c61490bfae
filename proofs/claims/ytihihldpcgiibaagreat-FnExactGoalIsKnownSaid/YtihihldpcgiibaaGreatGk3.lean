/- Gk3. Written by a program of mine (aw.py). -/
import Derived.Test.YtihihldpcgiibaaGreatFacts
import Derived.Test.YtihihldpcgiibaaGreatGk2
set_option linter.unusedVariables false
set_option linter.unusedSimpArgs false
set_option linter.unusedSectionVars false
namespace Go.Proofs.YtihihldpcgiibaaGreat
open Go Go.Eng
attribute [local irreducible] V VO VQ VY Quiet QR SpecP SpecO MSpec Rng PostP PostO PostG
def b_iTrait_l2 (a1 : List UInt8) (y1 : Nat) (k2_0 : TTrait × Int × Bool) : List TTrait → TTrait × Int × Bool
  | [] => k2_0
  | x8 :: xs => (cnd (x8.name == a1) (
(x8, (y1 : Int), true)) (
b_iTrait_l2 a1 y1 k2_0 xs ))
def b_iTrait_l1 (a1 : List UInt8) : List TPackage → Nat → TTrait × Int × Bool
  | [], y1 => ((TTrait.mk [] [] false false []), 0, false)
  | x4 :: xs, y1 => b_iTrait_l2 a1 y1 (b_iTrait_l1 a1 xs (y1 + 1)) x4.traits 
def b_iTrait (a0 : TProgram) (a1 : List UInt8) : TTrait × Int × Bool :=
b_iTrait_l1 a1 a0.packages 0
set_option maxHeartbeats 4000000 in
theorem w_iTrait (a0 : TProgram) (a1 : List UInt8) : SpecP Tryz.prog 54 [.d (eProgram a0), .d (.s a1)] [eTrait (b_iTrait a0 a1).1, .i .i64 (b_iTrait a0 a1).2.1, .b (b_iTrait a0 a1).2.2] := by
  obtain ⟨r, h⟩ : ∃ r, b_iTrait a0 a1 = r := ⟨_, rfl⟩
  rw [h]
  obtain ⟨a0_0⟩ := a0
  unfold b_iTrait at h
  refine SpecP_intro Tryz.func54 rfl (by kernel_rfl) rfl fun A _ => ?_
  refine goL ?_
  refine V_block ?_
  show V _ _ _ _ _
  refine V_bd 12 (fun z2 => ?_)
  refine V_loop1 (fun (y1 : Nat) => ⟨[(1, .d (.s a1)), (4, .ptr 1 0), (12, .d (.sl 6 (ePackages a0_0))), (13, .d (.i .i64 (a0_0.length : Int))), (14, .d (.i .i64 (y1 : Int)))], [.box [.d (.sl 6 (ePackages a0_0))], .box [.d (.s []), .nilsl, .d (.b false), .d (.b false), .nilsl]], Tryz.f54.ntmps⟩) (fun y1 => b_iTrait_l1 a1 (a0_0.drop y1) y1 = r) (fun y1 => a0_0.length - y1) 0 ⟨rfl, ⟨⟨rfl, rfl⟩, ⟨rfl, rfl⟩, ⟨rfl, rfl⟩, ⟨rfl, rfl⟩, ⟨rfl, rfl⟩, trivial⟩, ⟨[], rfl⟩, rfl⟩ h ?_
  rintro y1 h
  refine goL ?_
  refine V_seq (V_cb (fun c3 => ?_) (fun c3 => ?_))
  · have hky12 := kltN c3
    obtain ⟨x4, hx4, hdx4⟩ := drop_at hky12
    rw [hdx4, b_iTrait_l1.eq_2] at h
    obtain ⟨x4_0, x4_1, x4_2, x4_3, x4_4, x4_5⟩ := x4
    refine V_skip ?_
    show V _ _ _ _ _
    refine V_seq (V_block ?_)
    refine goL ?_
    refine VO_r (QR_ixn y1 (gPackage hx4)) ?_
    refine goL ?_
    refine V_block ?_
    show V _ _ _ _ _
    refine V_bd 20 (fun z6 => ?_)
    refine V_loop1 (fun (y5 : Nat) => ⟨[(1, .d (.s a1)), (4, .ptr 1 0), (7, .d (.i .i64 (y1 : Int))), (12, .d (.sl 6 (ePackages a0_0))), (13, .d (.i .i64 (a0_0.length : Int))), (14, .d (.i .i64 (y1 : Int))), (20, .d (.sl 5 (eTraits x4_2))), (21, .d (.i .i64 (x4_2.length : Int))), (22, .d (.i .i64 (y5 : Int)))], [.box [.d (.sl 6 (ePackages a0_0))], .box [.d (.s []), .nilsl, .d (.b false), .d (.b false), .nilsl], .box [.d (.s x4_0), .d (.sl 1 (eStrs x4_1)), .d (.sl 5 (eTraits x4_2)), .d (.sl 3 (eDataTypes x4_3)), .d (.sl 12 (eInstances x4_4)), .d (.sl 16 (eFunctions x4_5))]], Tryz.f54.ntmps⟩) (fun y5 => b_iTrait_l2 a1 y1 (b_iTrait_l1 a1 (a0_0.drop (y1 + 1)) (y1 + 1)) (x4_2.drop y5)  = r) (fun y5 => x4_2.length - y5) 0 ⟨rfl, ⟨⟨rfl, rfl⟩, ⟨rfl, rfl⟩, ⟨rfl, rfl⟩, ⟨rfl, rfl⟩, ⟨rfl, rfl⟩, ⟨rfl, rfl⟩, ⟨rfl, rfl⟩, ⟨rfl, rfl⟩, ⟨rfl, rfl⟩, trivial⟩, ⟨[], rfl⟩, rfl⟩ h ?_
    rintro y5 h
    refine goL ?_
    refine V_seq (V_cb (fun c7 => ?_) (fun c7 => ?_))
    · have hky52 := kltN c7
      obtain ⟨x8, hx8, hdx8⟩ := drop_at hky52
      rw [hdx8, b_iTrait_l2.eq_2] at h
      obtain ⟨x8_0, x8_1, x8_2, x8_3, x8_4⟩ := x8
      refine V_skip ?_
      show V _ _ _ _ _
      refine V_seq (V_block ?_)
      refine goL ?_
      refine VO_r (QR_ixn y5 (gTrait hx8)) ?_
      refine goL ?_
      refine V_cb (fun c9 => ?_) (fun c9 => ?_)
      · replace h := cnd_t c9 h
        refine goL ?_
        refine V_ret ?_
        subst h
        exact R_rP
      · replace h := cnd_f c9 h
        refine V_skip ?_
        show V _ _ _ _ _
        refine goL ?_
        refine VO_r (QR_inc y5 (by omega)) ?_
        refine goL ?_
        exact ⟨(y5 + 1), h, by omega, ⟨rfl, ⟨⟨rfl, rfl⟩, ⟨rfl, rfl⟩, ⟨rfl, rfl⟩, ⟨rfl, rfl⟩, ⟨rfl, rfl⟩, ⟨rfl, rfl⟩, ⟨rfl, rfl⟩, ⟨rfl, rfl⟩, ⟨rfl, rfl⟩, trivial⟩, ⟨_, rfl⟩, rfl⟩⟩
    · have hky52 := kgeN c7
      rw [drop_end hky52, b_iTrait_l2.eq_1] at h
      refine V_exit ?_
      show V _ _ _ _ _
      refine goL ?_
      refine VO_r (QR_inc y1 (by omega)) ?_
      refine goL ?_
      exact ⟨(y1 + 1), h, by omega, ⟨rfl, ⟨⟨rfl, rfl⟩, ⟨rfl, rfl⟩, ⟨rfl, rfl⟩, ⟨rfl, rfl⟩, ⟨rfl, rfl⟩, trivial⟩, ⟨_, rfl⟩, rfl⟩⟩
  · have hky12 := kgeN c3
    rw [drop_end hky12, b_iTrait_l1.eq_1] at h
    refine V_exit ?_
    show V _ _ _ _ _
    refine goL ?_
    refine VO_k (Q_build TBd.h TZ.h rfl (by repeat constructor)) ?_
    refine goL ?_
    refine V_ret ?_
    subst h
    exact R_rP
def b_iData_l2 (a1 : List UInt8) (y1 : Nat) (k2_0 : TDataType × Int × Bool) : List TDataType → TDataType × Int × Bool
  | [] => k2_0
  | x8 :: xs => (cnd (x8.name == a1) (
(x8, (y1 : Int), true)) (
b_iData_l2 a1 y1 k2_0 xs ))
def b_iData_l1 (a1 : List UInt8) : List TPackage → Nat → TDataType × Int × Bool
  | [], y1 => ((TDataType.mk [] [] []), 0, false)
  | x4 :: xs, y1 => b_iData_l2 a1 y1 (b_iData_l1 a1 xs (y1 + 1)) x4.dataTypes 
def b_iData (a0 : TProgram) (a1 : List UInt8) : TDataType × Int × Bool :=
b_iData_l1 a1 a0.packages 0
set_option maxHeartbeats 4000000 in
theorem w_iData (a0 : TProgram) (a1 : List UInt8) : SpecP Tryz.prog 57 [.d (eProgram a0), .d (.s a1)] [eDataType (b_iData a0 a1).1, .i .i64 (b_iData a0 a1).2.1, .b (b_iData a0 a1).2.2] := by
  obtain ⟨r, h⟩ : ∃ r, b_iData a0 a1 = r := ⟨_, rfl⟩
  rw [h]
  obtain ⟨a0_0⟩ := a0
  unfold b_iData at h
  refine SpecP_intro Tryz.func57 rfl (by kernel_rfl) rfl fun A _ => ?_
  refine goL ?_
  refine V_block ?_
  show V _ _ _ _ _
  refine V_bd 12 (fun z2 => ?_)
  refine V_loop1 (fun (y1 : Nat) => ⟨[(1, .d (.s a1)), (4, .ptr 1 0), (12, .d (.sl 6 (ePackages a0_0))), (13, .d (.i .i64 (a0_0.length : Int))), (14, .d (.i .i64 (y1 : Int)))], [.box [.d (.sl 6 (ePackages a0_0))], .box [.d (.s []), .nilsl, .nilsl]], Tryz.f57.ntmps⟩) (fun y1 => b_iData_l1 a1 (a0_0.drop y1) y1 = r) (fun y1 => a0_0.length - y1) 0 ⟨rfl, ⟨⟨rfl, rfl⟩, ⟨rfl, rfl⟩, ⟨rfl, rfl⟩, ⟨rfl, rfl⟩, ⟨rfl, rfl⟩, trivial⟩, ⟨[], rfl⟩, rfl⟩ h ?_
  rintro y1 h
  refine goL ?_
  refine V_seq (V_cb (fun c3 => ?_) (fun c3 => ?_))
  · have hky12 := kltN c3
    obtain ⟨x4, hx4, hdx4⟩ := drop_at hky12
    rw [hdx4, b_iData_l1.eq_2] at h
    obtain ⟨x4_0, x4_1, x4_2, x4_3, x4_4, x4_5⟩ := x4
    refine V_skip ?_
    show V _ _ _ _ _
    refine V_seq (V_block ?_)
    refine goL ?_
    refine VO_r (QR_ixn y1 (gPackage hx4)) ?_
    refine goL ?_
    refine V_block ?_
    show V _ _ _ _ _
    refine V_bd 20 (fun z6 => ?_)
    refine V_loop1 (fun (y5 : Nat) => ⟨[(1, .d (.s a1)), (4, .ptr 1 0), (7, .d (.i .i64 (y1 : Int))), (12, .d (.sl 6 (ePackages a0_0))), (13, .d (.i .i64 (a0_0.length : Int))), (14, .d (.i .i64 (y1 : Int))), (20, .d (.sl 3 (eDataTypes x4_3))), (21, .d (.i .i64 (x4_3.length : Int))), (22, .d (.i .i64 (y5 : Int)))], [.box [.d (.sl 6 (ePackages a0_0))], .box [.d (.s []), .nilsl, .nilsl], .box [.d (.s x4_0), .d (.sl 1 (eStrs x4_1)), .d (.sl 5 (eTraits x4_2)), .d (.sl 3 (eDataTypes x4_3)), .d (.sl 12 (eInstances x4_4)), .d (.sl 16 (eFunctions x4_5))]], Tryz.f57.ntmps⟩) (fun y5 => b_iData_l2 a1 y1 (b_iData_l1 a1 (a0_0.drop (y1 + 1)) (y1 + 1)) (x4_3.drop y5)  = r) (fun y5 => x4_3.length - y5) 0 ⟨rfl, ⟨⟨rfl, rfl⟩, ⟨rfl, rfl⟩, ⟨rfl, rfl⟩, ⟨rfl, rfl⟩, ⟨rfl, rfl⟩, ⟨rfl, rfl⟩, ⟨rfl, rfl⟩, ⟨rfl, rfl⟩, ⟨rfl, rfl⟩, trivial⟩, ⟨[], rfl⟩, rfl⟩ h ?_
    rintro y5 h
    refine goL ?_
    refine V_seq (V_cb (fun c7 => ?_) (fun c7 => ?_))
    · have hky52 := kltN c7
      obtain ⟨x8, hx8, hdx8⟩ := drop_at hky52
      rw [hdx8, b_iData_l2.eq_2] at h
      obtain ⟨x8_0, x8_1, x8_2⟩ := x8
      refine V_skip ?_
      show V _ _ _ _ _
      refine V_seq (V_block ?_)
      refine goL ?_
      refine VO_r (QR_ixn y5 (gDataType hx8)) ?_
      refine goL ?_
      refine V_cb (fun c9 => ?_) (fun c9 => ?_)
      · replace h := cnd_t c9 h
        refine goL ?_
        refine V_ret ?_
        subst h
        exact R_rP
      · replace h := cnd_f c9 h
        refine V_skip ?_
        show V _ _ _ _ _
        refine goL ?_
        refine VO_r (QR_inc y5 (by omega)) ?_
        refine goL ?_
        exact ⟨(y5 + 1), h, by omega, ⟨rfl, ⟨⟨rfl, rfl⟩, ⟨rfl, rfl⟩, ⟨rfl, rfl⟩, ⟨rfl, rfl⟩, ⟨rfl, rfl⟩, ⟨rfl, rfl⟩, ⟨rfl, rfl⟩, ⟨rfl, rfl⟩, ⟨rfl, rfl⟩, trivial⟩, ⟨_, rfl⟩, rfl⟩⟩
    · have hky52 := kgeN c7
      rw [drop_end hky52, b_iData_l2.eq_1] at h
      refine V_exit ?_
      show V _ _ _ _ _
      refine goL ?_
      refine VO_r (QR_inc y1 (by omega)) ?_
      refine goL ?_
      exact ⟨(y1 + 1), h, by omega, ⟨rfl, ⟨⟨rfl, rfl⟩, ⟨rfl, rfl⟩, ⟨rfl, rfl⟩, ⟨rfl, rfl⟩, ⟨rfl, rfl⟩, trivial⟩, ⟨_, rfl⟩, rfl⟩⟩
  · have hky12 := kgeN c3
    rw [drop_end hky12, b_iData_l1.eq_1] at h
    refine V_exit ?_
    show V _ _ _ _ _
    refine goL ?_
    refine VO_k (Q_build TBd.h TZ.h rfl (by repeat constructor)) ?_
    refine goL ?_
    refine V_ret ?_
    subst h
    exact R_rP
def b_sTraitAt_l2 (a1 : List UInt8) (y1 : Nat) (k2_0 : TTrait × Int × Bool) : List TTrait → TTrait × Int × Bool
  | [] => k2_0
  | x8 :: xs => (cnd (x8.name == a1) (
(x8, (y1 : Int), true)) (
b_sTraitAt_l2 a1 y1 k2_0 xs ))
def b_sTraitAt_l1 (a1 : List UInt8) : List TPackage → Nat → TTrait × Int × Bool
  | [], y1 => ((TTrait.mk [] [] false false []), 0, false)
  | x4 :: xs, y1 => b_sTraitAt_l2 a1 y1 (b_sTraitAt_l1 a1 xs (y1 + 1)) x4.traits 
def b_sTraitAt (a0 : TProgram) (a1 : List UInt8) : TTrait × Int × Bool :=
b_sTraitAt_l1 a1 a0.packages 0
set_option maxHeartbeats 4000000 in
theorem w_sTraitAt (a0 : TProgram) (a1 : List UInt8) : SpecP Tryz.prog 47 [.d (eProgram a0), .d (.s a1)] [eTrait (b_sTraitAt a0 a1).1, .i .i64 (b_sTraitAt a0 a1).2.1, .b (b_sTraitAt a0 a1).2.2] := by
  obtain ⟨r, h⟩ : ∃ r, b_sTraitAt a0 a1 = r := ⟨_, rfl⟩
  rw [h]
  obtain ⟨a0_0⟩ := a0
  unfold b_sTraitAt at h
  refine SpecP_intro Tryz.func47 rfl (by kernel_rfl) rfl fun A _ => ?_
  refine goL ?_
  refine V_block ?_
  show V _ _ _ _ _
  refine V_bdc 0 0 (fun z2 => ?_)
  refine V_loop1 (fun (y1 : Nat) => ⟨[(1, .d (.s a1)), (2, .ptr 0 0), (4, .ptr 1 0), (7, .d (.i .i64 (y1 : Int)))], [.box [.d (.sl 6 (ePackages a0_0))], .box [.d (.s []), .nilsl, .d (.b false), .d (.b false), .nilsl]], Tryz.f47.ntmps⟩) (fun y1 => b_sTraitAt_l1 a1 (a0_0.drop y1) y1 = r) (fun y1 => a0_0.length - y1) 0 ⟨rfl, ⟨⟨rfl, rfl⟩, ⟨rfl, rfl⟩, ⟨rfl, rfl⟩, ⟨rfl, rfl⟩, trivial⟩, ⟨[], rfl⟩, rfl⟩ h ?_
  rintro y1 h
  refine goL ?_
  refine V_cb (fun c3 => ?_) (fun c3 => ?_)
  · have hky12 := kltN c3
    obtain ⟨x4, hx4, hdx4⟩ := drop_at hky12
    rw [hdx4, b_sTraitAt_l1.eq_2] at h
    obtain ⟨x4_0, x4_1, x4_2, x4_3, x4_4, x4_5⟩ := x4
    refine V_skip ?_
    show V _ _ _ _ _
    refine V_seq (V_block ?_)
    refine goL ?_
    refine V_block ?_
    show V _ _ _ _ _
    refine V_loop1 (fun (y5 : Nat) => ⟨[(1, .d (.s a1)), (2, .ptr 0 0), (4, .ptr 1 0), (7, .d (.i .i64 (y1 : Int))), (8, .d (.i .i64 (y5 : Int)))], [.box [.d (.sl 6 (ePackages a0_0))], .box [.d (.s []), .nilsl, .d (.b false), .d (.b false), .nilsl]], Tryz.f47.ntmps⟩) (fun y5 => b_sTraitAt_l2 a1 y1 (b_sTraitAt_l1 a1 (a0_0.drop (y1 + 1)) (y1 + 1)) (x4_2.drop y5)  = r) (fun y5 => x4_2.length - y5) 0 ⟨rfl, ⟨⟨rfl, rfl⟩, ⟨rfl, rfl⟩, ⟨rfl, rfl⟩, ⟨rfl, rfl⟩, ⟨rfl, rfl⟩, trivial⟩, ⟨[], rfl⟩, rfl⟩ h ?_
    rintro y5 h
    refine goL ?_
    refine VO_r (QR_ixn y1 (gPackage hx4)) ?_
    refine goL ?_
    refine V_cb (fun c6 => ?_) (fun c6 => ?_)
    · have hky52 := kltN c6
      refine V_bd 22 (fun z7 => ?_)
      obtain ⟨x8, hx8, hdx8⟩ := drop_at hky52
      rw [hdx8, b_sTraitAt_l2.eq_2] at h
      obtain ⟨x8_0, x8_1, x8_2, x8_3, x8_4⟩ := x8
      refine V_skip ?_
      show V _ _ _ _ _
      refine V_seq (V_block ?_)
      refine goL ?_
      refine VO_r (QR_ixn y1 (gPackage hx4)) ?_
      refine goL ?_
      refine VO_r (QR_ixn y5 (gTrait hx8)) ?_
      refine goL ?_
      refine V_cb (fun c9 => ?_) (fun c9 => ?_)
      · replace h := cnd_t c9 h
        refine goL ?_
        refine VO_r (QR_ixn y1 (gPackage hx4)) ?_
        refine goL ?_
        refine VO_r (QR_ixn y5 (gTrait hx8)) ?_
        refine goL ?_
        refine V_ret ?_
        subst h
        exact R_rP
      · replace h := cnd_f c9 h
        refine V_skip ?_
        show V _ _ _ _ _
        refine goL ?_
        refine VO_r (QR_inc y5 (by omega)) ?_
        refine goL ?_
        exact ⟨(y5 + 1), h, by omega, ⟨rfl, ⟨⟨rfl, rfl⟩, ⟨rfl, rfl⟩, ⟨rfl, rfl⟩, ⟨rfl, rfl⟩, ⟨rfl, rfl⟩, trivial⟩, ⟨_, rfl⟩, rfl⟩⟩
    · have hky52 := kgeN c6
      rw [drop_end hky52, b_sTraitAt_l2.eq_1] at h
      refine V_exit ?_
      show V _ _ _ _ _
      refine goL ?_
      refine VO_r (QR_inc y1 (by omega)) ?_
      refine goL ?_
      exact ⟨(y1 + 1), h, by omega, ⟨rfl, ⟨⟨rfl, rfl⟩, ⟨rfl, rfl⟩, ⟨rfl, rfl⟩, ⟨rfl, rfl⟩, trivial⟩, ⟨_, rfl⟩, rfl⟩⟩
  · have hky12 := kgeN c3
    rw [drop_end hky12, b_sTraitAt_l1.eq_1] at h
    refine V_exit ?_
    show V _ _ _ _ _
    refine goL ?_
    refine VO_k (Q_build TBd.h TZ.h rfl (by repeat constructor)) ?_
    refine goL ?_
    refine V_ret ?_
    subst h
    exact R_rP
def b_sDataAt_l2 (a1 : List UInt8) (y1 : Nat) (k2_0 : TDataType × Int × Bool) : List TDataType → TDataType × Int × Bool
  | [] => k2_0
  | x8 :: xs => (cnd (x8.name == a1) (
(x8, (y1 : Int), true)) (
b_sDataAt_l2 a1 y1 k2_0 xs ))
def b_sDataAt_l1 (a1 : List UInt8) : List TPackage → Nat → TDataType × Int × Bool
  | [], y1 => ((TDataType.mk [] [] []), 0, false)
  | x4 :: xs, y1 => b_sDataAt_l2 a1 y1 (b_sDataAt_l1 a1 xs (y1 + 1)) x4.dataTypes 
def b_sDataAt (a0 : TProgram) (a1 : List UInt8) : TDataType × Int × Bool :=
b_sDataAt_l1 a1 a0.packages 0
set_option maxHeartbeats 4000000 in
theorem w_sDataAt (a0 : TProgram) (a1 : List UInt8) : SpecP Tryz.prog 49 [.d (eProgram a0), .d (.s a1)] [eDataType (b_sDataAt a0 a1).1, .i .i64 (b_sDataAt a0 a1).2.1, .b (b_sDataAt a0 a1).2.2] := by
  obtain ⟨r, h⟩ : ∃ r, b_sDataAt a0 a1 = r := ⟨_, rfl⟩
  rw [h]
  obtain ⟨a0_0⟩ := a0
  unfold b_sDataAt at h
  refine SpecP_intro Tryz.func49 rfl (by kernel_rfl) rfl fun A _ => ?_
  refine goL ?_
  refine V_block ?_
  show V _ _ _ _ _
  refine V_bdc 0 0 (fun z2 => ?_)
  refine V_loop1 (fun (y1 : Nat) => ⟨[(1, .d (.s a1)), (2, .ptr 0 0), (4, .ptr 1 0), (7, .d (.i .i64 (y1 : Int)))], [.box [.d (.sl 6 (ePackages a0_0))], .box [.d (.s []), .nilsl, .nilsl]], Tryz.f49.ntmps⟩) (fun y1 => b_sDataAt_l1 a1 (a0_0.drop y1) y1 = r) (fun y1 => a0_0.length - y1) 0 ⟨rfl, ⟨⟨rfl, rfl⟩, ⟨rfl, rfl⟩, ⟨rfl, rfl⟩, ⟨rfl, rfl⟩, trivial⟩, ⟨[], rfl⟩, rfl⟩ h ?_
  rintro y1 h
  refine goL ?_
  refine V_cb (fun c3 => ?_) (fun c3 => ?_)
  · have hky12 := kltN c3
    obtain ⟨x4, hx4, hdx4⟩ := drop_at hky12
    rw [hdx4, b_sDataAt_l1.eq_2] at h
    obtain ⟨x4_0, x4_1, x4_2, x4_3, x4_4, x4_5⟩ := x4
    refine V_skip ?_
    show V _ _ _ _ _
    refine V_seq (V_block ?_)
    refine goL ?_
    refine V_block ?_
    show V _ _ _ _ _
    refine V_loop1 (fun (y5 : Nat) => ⟨[(1, .d (.s a1)), (2, .ptr 0 0), (4, .ptr 1 0), (7, .d (.i .i64 (y1 : Int))), (8, .d (.i .i64 (y5 : Int)))], [.box [.d (.sl 6 (ePackages a0_0))], .box [.d (.s []), .nilsl, .nilsl]], Tryz.f49.ntmps⟩) (fun y5 => b_sDataAt_l2 a1 y1 (b_sDataAt_l1 a1 (a0_0.drop (y1 + 1)) (y1 + 1)) (x4_3.drop y5)  = r) (fun y5 => x4_3.length - y5) 0 ⟨rfl, ⟨⟨rfl, rfl⟩, ⟨rfl, rfl⟩, ⟨rfl, rfl⟩, ⟨rfl, rfl⟩, ⟨rfl, rfl⟩, trivial⟩, ⟨[], rfl⟩, rfl⟩ h ?_
    rintro y5 h
    refine goL ?_
    refine VO_r (QR_ixn y1 (gPackage hx4)) ?_
    refine goL ?_
    refine V_cb (fun c6 => ?_) (fun c6 => ?_)
    · have hky52 := kltN c6
      refine V_bd 22 (fun z7 => ?_)
      obtain ⟨x8, hx8, hdx8⟩ := drop_at hky52
      rw [hdx8, b_sDataAt_l2.eq_2] at h
      obtain ⟨x8_0, x8_1, x8_2⟩ := x8
      refine V_skip ?_
      show V _ _ _ _ _
      refine V_seq (V_block ?_)
      refine goL ?_
      refine VO_r (QR_ixn y1 (gPackage hx4)) ?_
      refine goL ?_
      refine VO_r (QR_ixn y5 (gDataType hx8)) ?_
      refine goL ?_
      refine V_cb (fun c9 => ?_) (fun c9 => ?_)
      · replace h := cnd_t c9 h
        refine goL ?_
        refine VO_r (QR_ixn y1 (gPackage hx4)) ?_
        refine goL ?_
        refine VO_r (QR_ixn y5 (gDataType hx8)) ?_
        refine goL ?_
        refine V_ret ?_
        subst h
        exact R_rP
      · replace h := cnd_f c9 h
        refine V_skip ?_
        show V _ _ _ _ _
        refine goL ?_
        refine VO_r (QR_inc y5 (by omega)) ?_
        refine goL ?_
        exact ⟨(y5 + 1), h, by omega, ⟨rfl, ⟨⟨rfl, rfl⟩, ⟨rfl, rfl⟩, ⟨rfl, rfl⟩, ⟨rfl, rfl⟩, ⟨rfl, rfl⟩, trivial⟩, ⟨_, rfl⟩, rfl⟩⟩
    · have hky52 := kgeN c6
      rw [drop_end hky52, b_sDataAt_l2.eq_1] at h
      refine V_exit ?_
      show V _ _ _ _ _
      refine goL ?_
      refine VO_r (QR_inc y1 (by omega)) ?_
      refine goL ?_
      exact ⟨(y1 + 1), h, by omega, ⟨rfl, ⟨⟨rfl, rfl⟩, ⟨rfl, rfl⟩, ⟨rfl, rfl⟩, ⟨rfl, rfl⟩, trivial⟩, ⟨_, rfl⟩, rfl⟩⟩
  · have hky12 := kgeN c3
    rw [drop_end hky12, b_sDataAt_l1.eq_1] at h
    refine V_exit ?_
    show V _ _ _ _ _
    refine goL ?_
    refine VO_k (Q_build TBd.h TZ.h rfl (by repeat constructor)) ?_
    refine goL ?_
    refine V_ret ?_
    subst h
    exact R_rP
end Go.Proofs.YtihihldpcgiibaaGreat
