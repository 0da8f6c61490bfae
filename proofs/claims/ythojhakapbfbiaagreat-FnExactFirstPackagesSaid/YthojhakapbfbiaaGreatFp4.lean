/- Fp4. Written by a program of mine (aw.py). -/
import Derived.Test.YthojhakapbfbiaaGreatFacts
import Derived.Test.YthojhakapbfbiaaGreatFp2
set_option linter.unusedVariables false
set_option linter.unusedSimpArgs false
set_option linter.unusedSectionVars false
namespace Go.Proofs.YthojhakapbfbiaaGreat
open Go Go.Eng
attribute [local irreducible] V VO VQ VY Quiet QR SpecP SpecO MSpec Rng PostP PostO
def b_sSig (a0 : TSignature) : Option (TSignature) :=
gd (W (.sl 3 (eTypes a0.params)) ≤ 4294967296) (lt_ (idX a0.params) fun x2 =>
gd (W (eType a0.result) ≤ 4294967296) (lt_ (idX a0.result) fun x4 =>
gd (([] : List (List UInt8)).length + a0.vars.length ≤ 4294967296) (
gd (W (eExpr a0.body) ≤ 4294967296) (lt_ (idX a0.body) fun x7 =>
(some (TSignature.mk a0.name x2 x4 a0.hasDefault ([] ++ a0.vars) x7))))))
set_option maxHeartbeats 4000000 in
theorem w_sSig (a0 : TSignature) {r : TSignature} (h : b_sSig a0 = some r) : SpecO Tryz.prog 161 [.d (eSignature a0)] [84, 84, 9, 84, 118, 271] [eSignature r] := by
  obtain ⟨a0_0, a0_1, ⟨a0_2_0, a0_2_1, a0_2_2⟩, a0_3, a0_4, ⟨a0_5_0, a0_5_1, a0_5_2, a0_5_3, ⟨a0_5_4_0, a0_5_4_1, a0_5_4_2⟩, a0_5_5, a0_5_6⟩⟩ := a0
  unfold b_sSig at h
  refine SpecO_intro Tryz.func161 rfl (by kernel_rfl) rfl (by simp) fun A _ => ?_
  refine goL ?_
  obtain ⟨g1, h⟩ := gd_s h
  obtain ⟨x2, hx2, h⟩ := lt_x h
  have sx2 := u_sCopyTypes a0_1 g1
  rw [hx2] at sx2
  refine VO_co (sx2) ?_
  refine goL ?_
  obtain ⟨g3, h⟩ := gd_s h
  obtain ⟨x4, hx4, h⟩ := lt_x h
  obtain ⟨x4_0, x4_1, x4_2⟩ := x4
  have sx4 := u_sCopyType (TType.mk a0_2_0 a0_2_1 a0_2_2) g3
  rw [hx4] at sx4
  refine VO_co (sx4) ?_
  refine goL ?_
  refine VO_l0 ?_
  refine goL ?_
  obtain ⟨g5, h⟩ := gd_s h
  refine VO_ap g5 ?_
  refine goL ?_
  obtain ⟨g6, h⟩ := gd_s h
  obtain ⟨x7, hx7, h⟩ := lt_x h
  obtain ⟨x7_0, x7_1, x7_2, x7_3, ⟨x7_4_0, x7_4_1, x7_4_2⟩, x7_5, x7_6⟩ := x7
  have sx7 := u_sCopyEx (TExpr.mk a0_5_0 a0_5_1 a0_5_2 a0_5_3 (TType.mk a0_5_4_0 a0_5_4_1 a0_5_4_2) a0_5_5 a0_5_6) g6
  rw [hx7] at sx7
  refine VO_co (sx7) ?_
  refine goL ?_
  refine V_ret ?_
  replace h := Option.some.inj h
  subst h
  exact R_rO
theorem sSig_eq (x : TSignature) (h : W (eSignature x) ≤ 4294967296) : b_sSig x = some (idX x) := by
  obtain ⟨z0, z1, z2, z3, z4, z5⟩ := x
  simp only [eSignature, W, Ws, eTypes_ln, eStrs_ln, eExprs_ln, eArms_ln, eBounds_ln, eSignatures_ln, eConstructors_ln, eMethods_ln, eParams_ln, eTraits_ln, eDataTypes_ln, eInstances_ln, eFunctions_ln, ePackages_ln] at h
  unfold b_sSig
  simp only [lt_, idX]
  repeat rw [gd_eq (by first | omega | (simp only [W, Ws, eTypes_ln, eStrs_ln, eExprs_ln, eArms_ln, eBounds_ln, eSignatures_ln, eConstructors_ln, eMethods_ln, eParams_ln, eTraits_ln, eDataTypes_ln, eInstances_ln, eFunctions_ln, ePackages_ln]; omega) | (simp only [List.length_nil, List.length_cons, List.length_set, List.length_append, Nat.zero_add, W, Ws, eTypes_ln, eStrs_ln, eExprs_ln, eArms_ln, eBounds_ln, eSignatures_ln, eConstructors_ln, eMethods_ln, eParams_ln, eTraits_ln, eDataTypes_ln, eInstances_ln, eFunctions_ln, ePackages_ln]; omega) | (simp; omega))]
  try simp only [List.nil_append]
  try rfl
theorem t_sSig (x : TSignature) (h : W (eSignature x) ≤ 4294967296) : SpecO Tryz.prog 161 [.d (eSignature x)] [84, 84, 9, 84, 118, 271] [eSignature (idX x)] := w_sSig x (sSig_eq x h)
def b_sTrait_l1 (a0 : TTrait) : List TSignature → (List TSignature) → Option (TTrait)
  | [], y1 => gd (([] : List (List UInt8)).length + a0.supertraits.length ≤ 4294967296) (
(some (TTrait.mk a0.name ([] ++ a0.supertraits) a0.auto a0.assoc y1)))
  | x6 :: xs, y1 => gd (W (eSignature x6) ≤ 4294967296) (lt_ (idX x6) fun x8 =>
gd (y1.length + [x8].length ≤ 4294967296) (
b_sTrait_l1 a0 xs (y1 ++ [x8])))
def b_sTrait (a0 : TTrait) : Option (TTrait) :=
b_sTrait_l1 a0 a0.signatures []
set_option maxHeartbeats 4000000 in
theorem w_sTrait (a0 : TTrait) {r : TTrait} (h : b_sTrait a0 = some r) : SpecO Tryz.prog 109 [.d (eTrait a0)] [9, 120] [eTrait r] := by
  obtain ⟨a0_0, a0_1, a0_2, a0_3, a0_4⟩ := a0
  unfold b_sTrait at h
  refine SpecO_intro Tryz.func109 rfl (by kernel_rfl) rfl (by simp) fun A _ => ?_
  refine goL ?_
  refine VO_l0 ?_
  refine goL ?_
  refine V_block ?_
  show V _ _ _ _ _
  refine V_bdc 0 4 (fun z4 => ?_)
  refine V_loop3 (fun (y3 : Nat) (y1 : List TSignature) (v2 : Nat) => ⟨[(1, .ptr 0 0), (2, .ptr 1 0), (3, .sl 2 v2), (4, .d (.i .i64 (y3 : Int)))], [.box [.d (.s a0_0), .d (.sl 1 (eStrs a0_1)), .d (.b a0_2), .d (.b a0_3), .d (.sl 16 (eSignatures a0_4))], .box [.d (.s []), .nilsl, .d (.b false), .d (.b false), .nilsl], .own 120 16 v2 (eSignatures y1)], Tryz.f109.ntmps⟩) (fun y3 y1 v2 => b_sTrait_l1 (TTrait.mk a0_0 a0_1 a0_2 a0_3 a0_4) (a0_4.drop y3) y1 = some r) (fun y3 y1 v2 => a0_4.length - y3) 0 [] 0 ⟨rfl, ⟨⟨rfl, rfl⟩, ⟨rfl, rfl⟩, ⟨rfl, rfl⟩, ⟨rfl, rfl⟩, trivial⟩, ⟨[], rfl⟩, rfl⟩ h ?_
  rintro y3 y1 v2 h
  refine goL ?_
  refine V_cb (fun c5 => ?_) (fun c5 => ?_)
  · have hky32 := kltN c5
    obtain ⟨x6, hx6, hdx6⟩ := drop_at hky32
    rw [hdx6, b_sTrait_l1.eq_2] at h
    obtain ⟨x6_0, x6_1, ⟨x6_2_0, x6_2_1, x6_2_2⟩, x6_3, x6_4, ⟨x6_5_0, x6_5_1, x6_5_2, x6_5_3, ⟨x6_5_4_0, x6_5_4_1, x6_5_4_2⟩, x6_5_5, x6_5_6⟩⟩ := x6
    refine V_skip ?_
    show V _ _ _ _ _
    refine V_seq (V_block ?_)
    refine goL ?_
    refine VO_r (QR_ixn y3 (gSignature hx6)) ?_
    refine goL ?_
    obtain ⟨g7, h⟩ := gd_s h
    obtain ⟨x8, hx8, h⟩ := lt_x h
    obtain ⟨x8_0, x8_1, ⟨x8_2_0, x8_2_1, x8_2_2⟩, x8_3, x8_4, ⟨x8_5_0, x8_5_1, x8_5_2, x8_5_3, ⟨x8_5_4_0, x8_5_4_1, x8_5_4_2⟩, x8_5_5, x8_5_6⟩⟩ := x8
    have sx8 := t_sSig (TSignature.mk x6_0 x6_1 (TType.mk x6_2_0 x6_2_1 x6_2_2) x6_3 x6_4 (TExpr.mk x6_5_0 x6_5_1 x6_5_2 x6_5_3 (TType.mk x6_5_4_0 x6_5_4_1 x6_5_4_2) x6_5_5 x6_5_6)) g7
    rw [hx8] at sx8
    refine VO_co (sx8) ?_
    refine VO_l1t (TSignature.mk x8_0 x8_1 (TType.mk x8_2_0 x8_2_1 x8_2_2) x8_3 x8_4 (TExpr.mk x8_5_0 x8_5_1 x8_5_2 x8_5_3 (TType.mk x8_5_4_0 x8_5_4_1 x8_5_4_2) x8_5_5 x8_5_6)) ?_
    obtain ⟨g9, h⟩ := gd_s h
    refine VO_ap g9 ?_
    refine goL ?_
    refine VO_r (QR_inc y3 (by omega)) ?_
    refine goL ?_
    exact ⟨(y3 + 1), (y1 ++ [(TSignature.mk x8_0 x8_1 (TType.mk x8_2_0 x8_2_1 x8_2_2) x8_3 x8_4 (TExpr.mk x8_5_0 x8_5_1 x8_5_2 x8_5_3 (TType.mk x8_5_4_0 x8_5_4_1 x8_5_4_2) x8_5_5 x8_5_6))]), (v2 + 1), h, by omega, ⟨rfl, ⟨⟨rfl, rfl⟩, ⟨rfl, rfl⟩, ⟨rfl, rfl⟩, ⟨rfl, rfl⟩, trivial⟩, ⟨_, rfl⟩, rfl⟩⟩
  · have hky32 := kgeN c5
    rw [drop_end hky32, b_sTrait_l1.eq_1] at h
    refine V_exit ?_
    show V _ _ _ _ _
    refine goL ?_
    refine VO_l0 ?_
    refine goL ?_
    obtain ⟨g10, h⟩ := gd_s h
    refine VO_ap g10 ?_
    refine goL ?_
    refine V_ret ?_
    replace h := Option.some.inj h
    subst h
    exact R_rO
theorem sTrait_l1_eq (a0 : TTrait) : ∀ (xs y : List TSignature), Ws (eSignatures xs) ≤ 4294967296 → y.length + xs.length ≤ 4294967296 → b_sTrait_l1 a0 xs y = b_sTrait_l1 a0 [] (y ++ xs)
  | [], y, _, h => by rw [List.append_nil]
  | x :: xs, y, h, h2 => by
    obtain ⟨z0, z1, z2, z3, z4, z5⟩ := x
    simp only [eSignatures, Ws, eSignature, W, eTypes_ln, eStrs_ln, eExprs_ln, eArms_ln, eBounds_ln, eSignatures_ln, eConstructors_ln, eMethods_ln, eParams_ln, eTraits_ln, eDataTypes_ln, eInstances_ln, eFunctions_ln, ePackages_ln] at h
    simp only [List.length_cons] at h2
    rw [b_sTrait_l1.eq_2]
    simp only [lt_, idX]
    repeat rw [gd_eq (by first | omega | (simp only [eSignature, W, Ws, eTypes_ln, eStrs_ln, eExprs_ln, eArms_ln, eBounds_ln, eSignatures_ln, eConstructors_ln, eMethods_ln, eParams_ln, eTraits_ln, eDataTypes_ln, eInstances_ln, eFunctions_ln, ePackages_ln]; omega) | (simp only [List.length_nil, List.length_cons, List.length_set, List.length_append, Nat.zero_add, W, Ws, eTypes_ln, eStrs_ln, eExprs_ln, eArms_ln, eBounds_ln, eSignatures_ln, eConstructors_ln, eMethods_ln, eParams_ln, eTraits_ln, eDataTypes_ln, eInstances_ln, eFunctions_ln, ePackages_ln]; omega) | (simp; omega))]
    rw [sTrait_l1_eq a0 xs _ (by omega) (by simp only [List.length_append, List.length_cons, List.length_nil]; omega)]
    simp only [List.append_assoc, List.cons_append, List.nil_append]
theorem sTrait_eq (x : TTrait) (h : W (eTrait x) ≤ 4294967296) : b_sTrait x = some (idX x) := by
  obtain ⟨z0, z1, z2, z3, z4⟩ := x
  simp only [eTrait, W, Ws, eTypes_ln, eStrs_ln, eExprs_ln, eArms_ln, eBounds_ln, eSignatures_ln, eConstructors_ln, eMethods_ln, eParams_ln, eTraits_ln, eDataTypes_ln, eInstances_ln, eFunctions_ln, ePackages_ln] at h
  unfold b_sTrait
  simp only [lt_, idX]
  repeat rw [gd_eq (by first | omega | (simp only [W, Ws, eTypes_ln, eStrs_ln, eExprs_ln, eArms_ln, eBounds_ln, eSignatures_ln, eConstructors_ln, eMethods_ln, eParams_ln, eTraits_ln, eDataTypes_ln, eInstances_ln, eFunctions_ln, ePackages_ln]; omega) | (simp only [List.length_nil, List.length_cons, List.length_set, List.length_append, Nat.zero_add, W, Ws, eTypes_ln, eStrs_ln, eExprs_ln, eArms_ln, eBounds_ln, eSignatures_ln, eConstructors_ln, eMethods_ln, eParams_ln, eTraits_ln, eDataTypes_ln, eInstances_ln, eFunctions_ln, ePackages_ln]; omega) | (simp; omega))]
  rw [sTrait_l1_eq _ _ [] (by omega) (by simp only [List.length_nil]; omega)]
  rw [b_sTrait_l1.eq_1]
  simp only [lt_, idX, List.take_zero, List.nil_append]
  repeat rw [gd_eq (by first | omega | (simp only [W, Ws, eTypes_ln, eStrs_ln, eExprs_ln, eArms_ln, eBounds_ln, eSignatures_ln, eConstructors_ln, eMethods_ln, eParams_ln, eTraits_ln, eDataTypes_ln, eInstances_ln, eFunctions_ln, ePackages_ln]; omega) | (simp only [List.length_nil, List.length_cons, List.length_set, List.length_append, Nat.zero_add, W, Ws, eTypes_ln, eStrs_ln, eExprs_ln, eArms_ln, eBounds_ln, eSignatures_ln, eConstructors_ln, eMethods_ln, eParams_ln, eTraits_ln, eDataTypes_ln, eInstances_ln, eFunctions_ln, ePackages_ln]; omega) | (simp; omega))]
  try rfl
theorem t_sTrait (x : TTrait) (h : W (eTrait x) ≤ 4294967296) : SpecO Tryz.prog 109 [.d (eTrait x)] [9, 120] [eTrait (idX x)] := w_sTrait x (sTrait_eq x h)
def b_sData_l1 (a0 : TDataType) : List TConstructor → (List TConstructor) → Option (TDataType)
  | [], y1 => gd (([] : List (List UInt8)).length + a0.vars.length ≤ 4294967296) (
(some (TDataType.mk a0.name ([] ++ a0.vars) y1)))
  | x6 :: xs, y1 => gd (W (.sl 3 (eTypes x6.fields)) ≤ 4294967296) (lt_ (idX x6.fields) fun x8 =>
gd (y1.length + [(TConstructor.mk x6.name x8)].length ≤ 4294967296) (
b_sData_l1 a0 xs (y1 ++ [(TConstructor.mk x6.name x8)])))
def b_sData (a0 : TDataType) : Option (TDataType) :=
b_sData_l1 a0 a0.constructors []
set_option maxHeartbeats 4000000 in
theorem w_sData (a0 : TDataType) {r : TDataType} (h : b_sData a0 = some r) : SpecO Tryz.prog 110 [.d (eDataType a0)] [9, 257] [eDataType r] := by
  obtain ⟨a0_0, a0_1, a0_2⟩ := a0
  unfold b_sData at h
  refine SpecO_intro Tryz.func110 rfl (by kernel_rfl) rfl (by simp) fun A _ => ?_
  refine goL ?_
  refine VO_l0 ?_
  refine goL ?_
  refine V_block ?_
  show V _ _ _ _ _
  refine V_bdc 0 2 (fun z4 => ?_)
  refine V_loop3 (fun (y3 : Nat) (y1 : List TConstructor) (v2 : Nat) => ⟨[(1, .ptr 0 0), (2, .ptr 1 0), (3, .sl 2 v2), (4, .d (.i .i64 (y3 : Int)))], [.box [.d (.s a0_0), .d (.sl 1 (eStrs a0_1)), .d (.sl 2 (eConstructors a0_2))], .box [.d (.s []), .nilsl, .nilsl], .own 257 2 v2 (eConstructors y1)], Tryz.f110.ntmps⟩) (fun y3 y1 v2 => b_sData_l1 (TDataType.mk a0_0 a0_1 a0_2) (a0_2.drop y3) y1 = some r) (fun y3 y1 v2 => a0_2.length - y3) 0 [] 0 ⟨rfl, ⟨⟨rfl, rfl⟩, ⟨rfl, rfl⟩, ⟨rfl, rfl⟩, ⟨rfl, rfl⟩, trivial⟩, ⟨[], rfl⟩, rfl⟩ h ?_
  rintro y3 y1 v2 h
  refine goL ?_
  refine V_cb (fun c5 => ?_) (fun c5 => ?_)
  · have hky32 := kltN c5
    obtain ⟨x6, hx6, hdx6⟩ := drop_at hky32
    rw [hdx6, b_sData_l1.eq_2] at h
    obtain ⟨x6_0, x6_1⟩ := x6
    refine V_skip ?_
    show V _ _ _ _ _
    refine V_seq (V_block ?_)
    refine V_drawX (P := Tryz.prog) Mix.h [(0, true), (1, true), (2, true), (3, true), (4, true), (5, true), (6, true), (7, true), (8, true), (9, true), (10, true), (11, true), (12, true), (13, false), (14, true), (15, false), (16, false), (17, true)] (by kernel_rfl) ?_
    refine goY ?_
    refine VY_ri rfl (QR_ixn y3 (gConstructor hx6)) ?_
    refine goY ?_
    refine VY_ri rfl (QR_ixn y3 (gConstructor hx6)) ?_
    refine goY ?_
    obtain ⟨g7, h⟩ := gd_s h
    obtain ⟨x8, hx8, h⟩ := lt_x h
    have sx8 := u_sCopyTypes x6_1 g7
    rw [hx8] at sx8
    refine VY_co (sx8) ?_
    refine goY ?_
    refine VY_l1t (T := 193) (TConstructor.mk x6_0 x8) ?_
    obtain ⟨g9, h⟩ := gd_s h
    refine VY_ap (T := 193) g9 ?_
    refine goY ?_
    refine VY_nil ?_
    refine goL ?_
    refine VO_r (QR_inc y3 (by omega)) ?_
    refine goL ?_
    exact ⟨(y3 + 1), (y1 ++ [(TConstructor.mk x6_0 x8)]), (v2 + 1), h, by omega, ⟨rfl, ⟨⟨rfl, rfl⟩, ⟨rfl, rfl⟩, ⟨rfl, rfl⟩, ⟨rfl, rfl⟩, trivial⟩, ⟨_, rfl⟩, rfl⟩⟩
  · have hky32 := kgeN c5
    rw [drop_end hky32, b_sData_l1.eq_1] at h
    refine V_exit ?_
    show V _ _ _ _ _
    refine goL ?_
    refine VO_l0 ?_
    refine goL ?_
    obtain ⟨g10, h⟩ := gd_s h
    refine VO_ap g10 ?_
    refine goL ?_
    refine V_ret ?_
    replace h := Option.some.inj h
    subst h
    exact R_rO
theorem sData_l1_eq (a0 : TDataType) : ∀ (xs y : List TConstructor), Ws (eConstructors xs) ≤ 4294967296 → y.length + xs.length ≤ 4294967296 → b_sData_l1 a0 xs y = b_sData_l1 a0 [] (y ++ xs)
  | [], y, _, h => by rw [List.append_nil]
  | x :: xs, y, h, h2 => by
    obtain ⟨z0, z1⟩ := x
    simp only [eConstructors, Ws, eConstructor, W, eTypes_ln, eStrs_ln, eExprs_ln, eArms_ln, eBounds_ln, eSignatures_ln, eConstructors_ln, eMethods_ln, eParams_ln, eTraits_ln, eDataTypes_ln, eInstances_ln, eFunctions_ln, ePackages_ln] at h
    simp only [List.length_cons] at h2
    rw [b_sData_l1.eq_2]
    simp only [lt_, idX]
    repeat rw [gd_eq (by first | omega | (simp only [eConstructor, W, Ws, eTypes_ln, eStrs_ln, eExprs_ln, eArms_ln, eBounds_ln, eSignatures_ln, eConstructors_ln, eMethods_ln, eParams_ln, eTraits_ln, eDataTypes_ln, eInstances_ln, eFunctions_ln, ePackages_ln]; omega) | (simp only [List.length_nil, List.length_cons, List.length_set, List.length_append, Nat.zero_add, W, Ws, eTypes_ln, eStrs_ln, eExprs_ln, eArms_ln, eBounds_ln, eSignatures_ln, eConstructors_ln, eMethods_ln, eParams_ln, eTraits_ln, eDataTypes_ln, eInstances_ln, eFunctions_ln, ePackages_ln]; omega) | (simp; omega))]
    rw [sData_l1_eq a0 xs _ (by omega) (by simp only [List.length_append, List.length_cons, List.length_nil]; omega)]
    simp only [List.append_assoc, List.cons_append, List.nil_append]
theorem sData_eq (x : TDataType) (h : W (eDataType x) ≤ 4294967296) : b_sData x = some (idX x) := by
  obtain ⟨z0, z1, z2⟩ := x
  simp only [eDataType, W, Ws, eTypes_ln, eStrs_ln, eExprs_ln, eArms_ln, eBounds_ln, eSignatures_ln, eConstructors_ln, eMethods_ln, eParams_ln, eTraits_ln, eDataTypes_ln, eInstances_ln, eFunctions_ln, ePackages_ln] at h
  unfold b_sData
  simp only [lt_, idX]
  repeat rw [gd_eq (by first | omega | (simp only [W, Ws, eTypes_ln, eStrs_ln, eExprs_ln, eArms_ln, eBounds_ln, eSignatures_ln, eConstructors_ln, eMethods_ln, eParams_ln, eTraits_ln, eDataTypes_ln, eInstances_ln, eFunctions_ln, ePackages_ln]; omega) | (simp only [List.length_nil, List.length_cons, List.length_set, List.length_append, Nat.zero_add, W, Ws, eTypes_ln, eStrs_ln, eExprs_ln, eArms_ln, eBounds_ln, eSignatures_ln, eConstructors_ln, eMethods_ln, eParams_ln, eTraits_ln, eDataTypes_ln, eInstances_ln, eFunctions_ln, ePackages_ln]; omega) | (simp; omega))]
  rw [sData_l1_eq _ _ [] (by omega) (by simp only [List.length_nil]; omega)]
  rw [b_sData_l1.eq_1]
  simp only [lt_, idX, List.take_zero, List.nil_append]
  repeat rw [gd_eq (by first | omega | (simp only [W, Ws, eTypes_ln, eStrs_ln, eExprs_ln, eArms_ln, eBounds_ln, eSignatures_ln, eConstructors_ln, eMethods_ln, eParams_ln, eTraits_ln, eDataTypes_ln, eInstances_ln, eFunctions_ln, ePackages_ln]; omega) | (simp only [List.length_nil, List.length_cons, List.length_set, List.length_append, Nat.zero_add, W, Ws, eTypes_ln, eStrs_ln, eExprs_ln, eArms_ln, eBounds_ln, eSignatures_ln, eConstructors_ln, eMethods_ln, eParams_ln, eTraits_ln, eDataTypes_ln, eInstances_ln, eFunctions_ln, ePackages_ln]; omega) | (simp; omega))]
  try rfl
theorem t_sData (x : TDataType) (h : W (eDataType x) ≤ 4294967296) : SpecO Tryz.prog 110 [.d (eDataType x)] [9, 257] [eDataType (idX x)] := w_sData x (sData_eq x h)
def b_sBounds_l1 : List TBound → (List TBound) → Option (List TBound)
  | [], y1 => (some y1)
  | x6 :: xs, y1 => gd (W (eType x6.type_) ≤ 4294967296) (lt_ (idX x6.type_) fun x8 =>
gd (y1.length + [(TBound.mk x6.trait x8)].length ≤ 4294967296) (
b_sBounds_l1 xs (y1 ++ [(TBound.mk x6.trait x8)])))
def b_sBounds (a0 : List TBound) : Option (List TBound) :=
b_sBounds_l1 a0 []
set_option maxHeartbeats 4000000 in
theorem w_sBounds (a0 : List TBound) {r : List TBound} (h : b_sBounds a0 = some r) : SpecO Tryz.prog 165 [.d (.sl 4 (eBounds a0))] [180] [.sl 4 (eBounds r)] := by
  unfold b_sBounds at h
  refine SpecO_intro Tryz.func165 rfl (by kernel_rfl) rfl (by simp) fun A _ => ?_
  refine goL ?_
  refine VO_l0 ?_
  refine goL ?_
  refine V_block ?_
  show V _ _ _ _ _
  refine V_bd 0 (fun z4 => ?_)
  refine V_loop3 (fun (y3 : Nat) (y1 : List TBound) (v2 : Nat) => ⟨[(0, .d (.sl 4 (eBounds a0))), (3, .sl 0 v2), (4, .d (.i .i64 (y3 : Int)))], [.own 180 4 v2 (eBounds y1)], Tryz.f165.ntmps⟩) (fun y3 y1 v2 => b_sBounds_l1 (a0.drop y3) y1 = some r) (fun y3 y1 v2 => a0.length - y3) 0 [] 0 ⟨rfl, ⟨⟨rfl, rfl⟩, ⟨rfl, rfl⟩, ⟨rfl, rfl⟩, trivial⟩, ⟨[], rfl⟩, rfl⟩ h ?_
  rintro y3 y1 v2 h
  refine goL ?_
  refine V_cb (fun c5 => ?_) (fun c5 => ?_)
  · have hky32 := kltN c5
    obtain ⟨x6, hx6, hdx6⟩ := drop_at hky32
    rw [hdx6, b_sBounds_l1.eq_2] at h
    obtain ⟨x6_0, ⟨x6_1_0, x6_1_1, x6_1_2⟩⟩ := x6
    refine V_skip ?_
    show V _ _ _ _ _
    refine V_seq (V_block ?_)
    refine V_drawX (P := Tryz.prog) Mix.h [(0, true), (1, true), (2, true), (3, true), (4, true), (5, true), (6, true), (7, true), (8, true), (9, true), (10, true), (11, false), (12, true), (13, false), (14, false), (15, true)] (by kernel_rfl) ?_
    refine goY ?_
    refine VY_ri rfl (QR_ixn y3 (gBound hx6)) ?_
    refine goY ?_
    refine VY_ri rfl (QR_ixn y3 (gBound hx6)) ?_
    refine goY ?_
    obtain ⟨g7, h⟩ := gd_s h
    obtain ⟨x8, hx8, h⟩ := lt_x h
    obtain ⟨x8_0, x8_1, x8_2⟩ := x8
    have sx8 := u_sCopyType (TType.mk x6_1_0 x6_1_1 x6_1_2) g7
    rw [hx8] at sx8
    refine VY_co (sx8) ?_
    refine goY ?_
    refine VY_l1t (T := 85) (TBound.mk x6_0 (TType.mk x8_0 x8_1 x8_2)) ?_
    obtain ⟨g9, h⟩ := gd_s h
    refine VY_ap (T := 85) g9 ?_
    refine goY ?_
    refine VY_nil ?_
    refine goL ?_
    refine VO_r (QR_inc y3 (by omega)) ?_
    refine goL ?_
    exact ⟨(y3 + 1), (y1 ++ [(TBound.mk x6_0 (TType.mk x8_0 x8_1 x8_2))]), (v2 + 1), h, by omega, ⟨rfl, ⟨⟨rfl, rfl⟩, ⟨rfl, rfl⟩, ⟨rfl, rfl⟩, trivial⟩, ⟨_, rfl⟩, rfl⟩⟩
  · have hky32 := kgeN c5
    rw [drop_end hky32, b_sBounds_l1.eq_1] at h
    refine V_exit ?_
    show V _ _ _ _ _
    refine goL ?_
    refine V_ret ?_
    replace h := Option.some.inj h
    subst h
    exact R_rO
theorem sBounds_l1_eq : ∀ (xs y : List TBound), Ws (eBounds xs) ≤ 4294967296 → y.length + xs.length ≤ 4294967296 → b_sBounds_l1  xs y = b_sBounds_l1  [] (y ++ xs)
  | [], y, _, h => by rw [List.append_nil]
  | x :: xs, y, h, h2 => by
    obtain ⟨z0, z1⟩ := x
    simp only [eBounds, Ws, eBound, W, eTypes_ln, eStrs_ln, eExprs_ln, eArms_ln, eBounds_ln, eSignatures_ln, eConstructors_ln, eMethods_ln, eParams_ln, eTraits_ln, eDataTypes_ln, eInstances_ln, eFunctions_ln, ePackages_ln] at h
    simp only [List.length_cons] at h2
    rw [b_sBounds_l1.eq_2]
    simp only [lt_, idX]
    repeat rw [gd_eq (by first | omega | (simp only [eBound, W, Ws, eTypes_ln, eStrs_ln, eExprs_ln, eArms_ln, eBounds_ln, eSignatures_ln, eConstructors_ln, eMethods_ln, eParams_ln, eTraits_ln, eDataTypes_ln, eInstances_ln, eFunctions_ln, ePackages_ln]; omega) | (simp only [List.length_nil, List.length_cons, List.length_set, List.length_append, Nat.zero_add, W, Ws, eTypes_ln, eStrs_ln, eExprs_ln, eArms_ln, eBounds_ln, eSignatures_ln, eConstructors_ln, eMethods_ln, eParams_ln, eTraits_ln, eDataTypes_ln, eInstances_ln, eFunctions_ln, ePackages_ln]; omega) | (simp; omega))]
    rw [sBounds_l1_eq  xs _ (by omega) (by simp only [List.length_append, List.length_cons, List.length_nil]; omega)]
    simp only [List.append_assoc, List.cons_append, List.nil_append]
theorem sBounds_eq (x : List TBound) (h : W (.sl 4 (eBounds x)) ≤ 4294967296) : b_sBounds x = some (idX x) := by
  simp only [W, eTypes_ln, eStrs_ln, eExprs_ln, eArms_ln, eBounds_ln, eSignatures_ln, eConstructors_ln, eMethods_ln, eParams_ln, eTraits_ln, eDataTypes_ln, eInstances_ln, eFunctions_ln, ePackages_ln] at h
  unfold b_sBounds
  simp only [lt_, idX]
  repeat rw [gd_eq (by first | omega | (simp only [W, Ws, eTypes_ln, eStrs_ln, eExprs_ln, eArms_ln, eBounds_ln, eSignatures_ln, eConstructors_ln, eMethods_ln, eParams_ln, eTraits_ln, eDataTypes_ln, eInstances_ln, eFunctions_ln, ePackages_ln]; omega) | (simp only [List.length_nil, List.length_cons, List.length_set, List.length_append, Nat.zero_add, W, Ws, eTypes_ln, eStrs_ln, eExprs_ln, eArms_ln, eBounds_ln, eSignatures_ln, eConstructors_ln, eMethods_ln, eParams_ln, eTraits_ln, eDataTypes_ln, eInstances_ln, eFunctions_ln, ePackages_ln]; omega) | (simp; omega))]
  rw [sBounds_l1_eq  _ [] (by omega) (by simp only [List.length_nil]; omega)]
  rw [b_sBounds_l1.eq_1]
  simp only [lt_, idX, List.take_zero, List.nil_append]
  repeat rw [gd_eq (by first | omega | (simp only [W, Ws, eTypes_ln, eStrs_ln, eExprs_ln, eArms_ln, eBounds_ln, eSignatures_ln, eConstructors_ln, eMethods_ln, eParams_ln, eTraits_ln, eDataTypes_ln, eInstances_ln, eFunctions_ln, ePackages_ln]; omega) | (simp only [List.length_nil, List.length_cons, List.length_set, List.length_append, Nat.zero_add, W, Ws, eTypes_ln, eStrs_ln, eExprs_ln, eArms_ln, eBounds_ln, eSignatures_ln, eConstructors_ln, eMethods_ln, eParams_ln, eTraits_ln, eDataTypes_ln, eInstances_ln, eFunctions_ln, ePackages_ln]; omega) | (simp; omega))]
  try rfl
theorem t_sBounds (x : List TBound) (h : W (.sl 4 (eBounds x)) ≤ 4294967296) : SpecO Tryz.prog 165 [.d (.sl 4 (eBounds x))] [180] [.sl 4 (eBounds (idX x))] := w_sBounds x (sBounds_eq x h)
def b_sInst_l1 (a0 : TInstance) : List TMethod → (List TMethod) → Option (TInstance)
  | [], y1 => gd (([] : List (List UInt8)).length + a0.vars.length ≤ 4294967296) (
gd (W (eType a0.head) ≤ 4294967296) (lt_ (idX a0.head) fun x13 =>
gd (W (.sl 4 (eBounds a0.where_)) ≤ 4294967296) (lt_ (idX a0.where_) fun x15 =>
gd (W (eType a0.assoc) ≤ 4294967296) (lt_ (idX a0.assoc) fun x17 =>
(some (TInstance.mk a0.trait ([] ++ a0.vars) x13 x15 a0.default_ a0.hasAssoc x17 y1))))))
  | x6 :: xs, y1 => gd (([] : List (List UInt8)).length + x6.vars.length ≤ 4294967296) (
gd (W (eExpr x6.body) ≤ 4294967296) (lt_ (idX x6.body) fun x9 =>
gd (y1.length + [(TMethod.mk x6.name ([] ++ x6.vars) x9)].length ≤ 4294967296) (
b_sInst_l1 a0 xs (y1 ++ [(TMethod.mk x6.name ([] ++ x6.vars) x9)]))))
def b_sInst (a0 : TInstance) : Option (TInstance) :=
b_sInst_l1 a0 a0.methods []
set_option maxHeartbeats 4000000 in
theorem w_sInst (a0 : TInstance) {r : TInstance} (h : b_sInst a0 = some r) : SpecO Tryz.prog 111 [.d (eInstance a0)] [9, 84, 180, 84, 160] [eInstance r] := by
  obtain ⟨a0_0, a0_1, ⟨a0_2_0, a0_2_1, a0_2_2⟩, a0_3, a0_4, a0_5, ⟨a0_6_0, a0_6_1, a0_6_2⟩, a0_7⟩ := a0
  unfold b_sInst at h
  refine SpecO_intro Tryz.func111 rfl (by kernel_rfl) rfl (by simp) fun A _ => ?_
  refine goL ?_
  refine VO_l0 ?_
  refine goL ?_
  refine V_block ?_
  show V _ _ _ _ _
  refine V_bdc 0 11 (fun z4 => ?_)
  refine V_loop3 (fun (y3 : Nat) (y1 : List TMethod) (v2 : Nat) => ⟨[(1, .ptr 0 0), (2, .ptr 1 0), (3, .sl 2 v2), (4, .d (.i .i64 (y3 : Int)))], [.box [.d (.s a0_0), .d (.sl 1 (eStrs a0_1)), .d (.i .i64 a0_2_0), .d (.s a0_2_1), .d (.sl 3 (eTypes a0_2_2)), .d (.sl 4 (eBounds a0_3)), .d (.b a0_4), .d (.b a0_5), .d (.i .i64 a0_6_0), .d (.s a0_6_1), .d (.sl 3 (eTypes a0_6_2)), .d (.sl 11 (eMethods a0_7))], .box [.d (.s []), .nilsl, .d (.i .i64 0), .d (.s []), .nilsl, .nilsl, .d (.b false), .d (.b false), .d (.i .i64 0), .d (.s []), .nilsl, .nilsl], .own 160 11 v2 (eMethods y1)], Tryz.f111.ntmps⟩) (fun y3 y1 v2 => b_sInst_l1 (TInstance.mk a0_0 a0_1 (TType.mk a0_2_0 a0_2_1 a0_2_2) a0_3 a0_4 a0_5 (TType.mk a0_6_0 a0_6_1 a0_6_2) a0_7) (a0_7.drop y3) y1 = some r) (fun y3 y1 v2 => a0_7.length - y3) 0 [] 0 ⟨rfl, ⟨⟨rfl, rfl⟩, ⟨rfl, rfl⟩, ⟨rfl, rfl⟩, ⟨rfl, rfl⟩, trivial⟩, ⟨[], rfl⟩, rfl⟩ h ?_
  rintro y3 y1 v2 h
  refine goL ?_
  refine V_cb (fun c5 => ?_) (fun c5 => ?_)
  · have hky32 := kltN c5
    obtain ⟨x6, hx6, hdx6⟩ := drop_at hky32
    rw [hdx6, b_sInst_l1.eq_2] at h
    obtain ⟨x6_0, x6_1, ⟨x6_2_0, x6_2_1, x6_2_2, x6_2_3, ⟨x6_2_4_0, x6_2_4_1, x6_2_4_2⟩, x6_2_5, x6_2_6⟩⟩ := x6
    refine V_skip ?_
    show V _ _ _ _ _
    refine V_seq (V_block ?_)
    refine goL ?_
    refine VO_r (QR_ixn y3 (gMethod hx6)) ?_
    refine goNL ?_
    refine V_drawX (P := Tryz.prog) Mix.h [(0, true), (1, true), (2, true), (4, true), (5, true), (7, true), (8, true), (3, false), (6, false), (9, false), (10, true), (11, false), (12, false), (13, true)] (by kernel_rfl) ?_
    refine goY ?_
    refine VY_l0 ?_
    obtain ⟨g7, h⟩ := gd_s h
    refine VY_ap (T := 67) g7 ?_
    obtain ⟨g8, h⟩ := gd_s h
    obtain ⟨x9, hx9, h⟩ := lt_x h
    obtain ⟨x9_0, x9_1, x9_2, x9_3, ⟨x9_4_0, x9_4_1, x9_4_2⟩, x9_5, x9_6⟩ := x9
    have sx9 := u_sCopyEx (TExpr.mk x6_2_0 x6_2_1 x6_2_2 x6_2_3 (TType.mk x6_2_4_0 x6_2_4_1 x6_2_4_2) x6_2_5 x6_2_6) g8
    rw [hx9] at sx9
    refine VY_co (sx9) ?_
    refine goY ?_
    refine VY_l1t (T := 86) (TMethod.mk x6_0 ([] ++ x6_1) (TExpr.mk x9_0 x9_1 x9_2 x9_3 (TType.mk x9_4_0 x9_4_1 x9_4_2) x9_5 x9_6)) ?_
    obtain ⟨g10, h⟩ := gd_s h
    refine VY_ap (T := 86) g10 ?_
    refine goY ?_
    refine VY_nil ?_
    refine goL ?_
    refine VO_r (QR_inc y3 (by omega)) ?_
    refine goL ?_
    exact ⟨(y3 + 1), (y1 ++ [(TMethod.mk x6_0 ([] ++ x6_1) (TExpr.mk x9_0 x9_1 x9_2 x9_3 (TType.mk x9_4_0 x9_4_1 x9_4_2) x9_5 x9_6))]), (v2 + 1), h, by omega, ⟨rfl, ⟨⟨rfl, rfl⟩, ⟨rfl, rfl⟩, ⟨rfl, rfl⟩, ⟨rfl, rfl⟩, trivial⟩, ⟨_, rfl⟩, rfl⟩⟩
  · have hky32 := kgeN c5
    rw [drop_end hky32, b_sInst_l1.eq_1] at h
    refine V_exit ?_
    show V _ _ _ _ _
    refine goL ?_
    refine VO_l0 ?_
    refine goL ?_
    obtain ⟨g11, h⟩ := gd_s h
    refine VO_ap g11 ?_
    refine goL ?_
    obtain ⟨g12, h⟩ := gd_s h
    obtain ⟨x13, hx13, h⟩ := lt_x h
    obtain ⟨x13_0, x13_1, x13_2⟩ := x13
    have sx13 := u_sCopyType (TType.mk a0_2_0 a0_2_1 a0_2_2) g12
    rw [hx13] at sx13
    refine VO_co (sx13) ?_
    refine goL ?_
    obtain ⟨g14, h⟩ := gd_s h
    obtain ⟨x15, hx15, h⟩ := lt_x h
    have sx15 := t_sBounds a0_3 g14
    rw [hx15] at sx15
    refine VO_co (sx15) ?_
    refine goL ?_
    obtain ⟨g16, h⟩ := gd_s h
    obtain ⟨x17, hx17, h⟩ := lt_x h
    obtain ⟨x17_0, x17_1, x17_2⟩ := x17
    have sx17 := u_sCopyType (TType.mk a0_6_0 a0_6_1 a0_6_2) g16
    rw [hx17] at sx17
    refine VO_co (sx17) ?_
    refine goL ?_
    refine V_ret ?_
    replace h := Option.some.inj h
    subst h
    exact R_rO
theorem sInst_l1_eq (a0 : TInstance) : ∀ (xs y : List TMethod), Ws (eMethods xs) ≤ 4294967296 → y.length + xs.length ≤ 4294967296 → b_sInst_l1 a0 xs y = b_sInst_l1 a0 [] (y ++ xs)
  | [], y, _, h => by rw [List.append_nil]
  | x :: xs, y, h, h2 => by
    obtain ⟨z0, z1, z2⟩ := x
    simp only [eMethods, Ws, eMethod, W, eTypes_ln, eStrs_ln, eExprs_ln, eArms_ln, eBounds_ln, eSignatures_ln, eConstructors_ln, eMethods_ln, eParams_ln, eTraits_ln, eDataTypes_ln, eInstances_ln, eFunctions_ln, ePackages_ln] at h
    simp only [List.length_cons] at h2
    rw [b_sInst_l1.eq_2]
    simp only [lt_, idX]
    repeat rw [gd_eq (by first | omega | (simp only [eMethod, W, Ws, eTypes_ln, eStrs_ln, eExprs_ln, eArms_ln, eBounds_ln, eSignatures_ln, eConstructors_ln, eMethods_ln, eParams_ln, eTraits_ln, eDataTypes_ln, eInstances_ln, eFunctions_ln, ePackages_ln]; omega) | (simp only [List.length_nil, List.length_cons, List.length_set, List.length_append, Nat.zero_add, W, Ws, eTypes_ln, eStrs_ln, eExprs_ln, eArms_ln, eBounds_ln, eSignatures_ln, eConstructors_ln, eMethods_ln, eParams_ln, eTraits_ln, eDataTypes_ln, eInstances_ln, eFunctions_ln, ePackages_ln]; omega) | (simp; omega))]
    rw [sInst_l1_eq a0 xs _ (by omega) (by simp only [List.length_append, List.length_cons, List.length_nil]; omega)]
    simp only [List.append_assoc, List.cons_append, List.nil_append]
theorem sInst_eq (x : TInstance) (h : W (eInstance x) ≤ 4294967296) : b_sInst x = some (idX x) := by
  obtain ⟨z0, z1, z2, z3, z4, z5, z6, z7⟩ := x
  simp only [eInstance, W, Ws, eTypes_ln, eStrs_ln, eExprs_ln, eArms_ln, eBounds_ln, eSignatures_ln, eConstructors_ln, eMethods_ln, eParams_ln, eTraits_ln, eDataTypes_ln, eInstances_ln, eFunctions_ln, ePackages_ln] at h
  unfold b_sInst
  simp only [lt_, idX]
  repeat rw [gd_eq (by first | omega | (simp only [W, Ws, eTypes_ln, eStrs_ln, eExprs_ln, eArms_ln, eBounds_ln, eSignatures_ln, eConstructors_ln, eMethods_ln, eParams_ln, eTraits_ln, eDataTypes_ln, eInstances_ln, eFunctions_ln, ePackages_ln]; omega) | (simp only [List.length_nil, List.length_cons, List.length_set, List.length_append, Nat.zero_add, W, Ws, eTypes_ln, eStrs_ln, eExprs_ln, eArms_ln, eBounds_ln, eSignatures_ln, eConstructors_ln, eMethods_ln, eParams_ln, eTraits_ln, eDataTypes_ln, eInstances_ln, eFunctions_ln, ePackages_ln]; omega) | (simp; omega))]
  rw [sInst_l1_eq _ _ [] (by omega) (by simp only [List.length_nil]; omega)]
  rw [b_sInst_l1.eq_1]
  simp only [lt_, idX, List.take_zero, List.nil_append]
  repeat rw [gd_eq (by first | omega | (simp only [W, Ws, eTypes_ln, eStrs_ln, eExprs_ln, eArms_ln, eBounds_ln, eSignatures_ln, eConstructors_ln, eMethods_ln, eParams_ln, eTraits_ln, eDataTypes_ln, eInstances_ln, eFunctions_ln, ePackages_ln]; omega) | (simp only [List.length_nil, List.length_cons, List.length_set, List.length_append, Nat.zero_add, W, Ws, eTypes_ln, eStrs_ln, eExprs_ln, eArms_ln, eBounds_ln, eSignatures_ln, eConstructors_ln, eMethods_ln, eParams_ln, eTraits_ln, eDataTypes_ln, eInstances_ln, eFunctions_ln, ePackages_ln]; omega) | (simp; omega))]
  try rfl
theorem t_sInst (x : TInstance) (h : W (eInstance x) ≤ 4294967296) : SpecO Tryz.prog 111 [.d (eInstance x)] [9, 84, 180, 84, 160] [eInstance (idX x)] := w_sInst x (sInst_eq x h)
def b_sFn_l1 (a0 : TFunction) : List TParam → (List TParam) → Option (TFunction)
  | [], y1 => gd (([] : List (List UInt8)).length + a0.vars.length ≤ 4294967296) (
gd (W (.sl 4 (eBounds a0.where_)) ≤ 4294967296) (lt_ (idX a0.where_) fun x12 =>
gd (W (eType a0.result) ≤ 4294967296) (lt_ (idX a0.result) fun x14 =>
gd (W (eExpr a0.body) ≤ 4294967296) (lt_ (idX a0.body) fun x16 =>
(some (TFunction.mk a0.name ([] ++ a0.vars) x12 y1 x14 x16))))))
  | x6 :: xs, y1 => gd (W (eType x6.type_) ≤ 4294967296) (lt_ (idX x6.type_) fun x8 =>
gd (y1.length + [(TParam.mk x6.name x8)].length ≤ 4294967296) (
b_sFn_l1 a0 xs (y1 ++ [(TParam.mk x6.name x8)])))
def b_sFn (a0 : TFunction) : Option (TFunction) :=
b_sFn_l1 a0 a0.params []
set_option maxHeartbeats 4000000 in
theorem w_sFn (a0 : TFunction) {r : TFunction} (h : b_sFn a0 = some r) : SpecO Tryz.prog 112 [.d (eFunction a0)] [9, 180, 182, 84, 84, 118, 271] [eFunction r] := by
  obtain ⟨a0_0, a0_1, a0_2, a0_3, ⟨a0_4_0, a0_4_1, a0_4_2⟩, ⟨a0_5_0, a0_5_1, a0_5_2, a0_5_3, ⟨a0_5_4_0, a0_5_4_1, a0_5_4_2⟩, a0_5_5, a0_5_6⟩⟩ := a0
  unfold b_sFn at h
  refine SpecO_intro Tryz.func112 rfl (by kernel_rfl) rfl (by simp) fun A _ => ?_
  refine goL ?_
  refine VO_l0 ?_
  refine goL ?_
  refine V_block ?_
  show V _ _ _ _ _
  refine V_bdc 0 3 (fun z4 => ?_)
  refine V_loop3 (fun (y3 : Nat) (y1 : List TParam) (v2 : Nat) => ⟨[(1, .ptr 0 0), (2, .ptr 1 0), (3, .sl 2 v2), (4, .d (.i .i64 (y3 : Int)))], [.box [.d (.s a0_0), .d (.sl 1 (eStrs a0_1)), .d (.sl 4 (eBounds a0_2)), .d (.sl 4 (eParams a0_3)), .d (.i .i64 a0_4_0), .d (.s a0_4_1), .d (.sl 3 (eTypes a0_4_2)), .d (.i .i64 a0_5_0), .d (.s a0_5_1), .d (.s a0_5_2), .d (.i .i64 a0_5_3), .d (.i .i64 a0_5_4_0), .d (.s a0_5_4_1), .d (.sl 3 (eTypes a0_5_4_2)), .d (.sl 9 (eExprs a0_5_5)), .d (.sl 11 (eArms a0_5_6))], .box [.d (.s []), .nilsl, .nilsl, .nilsl, .d (.i .i64 0), .d (.s []), .nilsl, .d (.i .i64 0), .d (.s []), .d (.s []), .d (.i .i64 0), .d (.i .i64 0), .d (.s []), .nilsl, .nilsl, .nilsl], .own 182 4 v2 (eParams y1)], Tryz.f112.ntmps⟩) (fun y3 y1 v2 => b_sFn_l1 (TFunction.mk a0_0 a0_1 a0_2 a0_3 (TType.mk a0_4_0 a0_4_1 a0_4_2) (TExpr.mk a0_5_0 a0_5_1 a0_5_2 a0_5_3 (TType.mk a0_5_4_0 a0_5_4_1 a0_5_4_2) a0_5_5 a0_5_6)) (a0_3.drop y3) y1 = some r) (fun y3 y1 v2 => a0_3.length - y3) 0 [] 0 ⟨rfl, ⟨⟨rfl, rfl⟩, ⟨rfl, rfl⟩, ⟨rfl, rfl⟩, ⟨rfl, rfl⟩, trivial⟩, ⟨[], rfl⟩, rfl⟩ h ?_
  rintro y3 y1 v2 h
  refine goL ?_
  refine V_cb (fun c5 => ?_) (fun c5 => ?_)
  · have hky32 := kltN c5
    obtain ⟨x6, hx6, hdx6⟩ := drop_at hky32
    rw [hdx6, b_sFn_l1.eq_2] at h
    obtain ⟨x6_0, ⟨x6_1_0, x6_1_1, x6_1_2⟩⟩ := x6
    refine V_skip ?_
    show V _ _ _ _ _
    refine V_seq (V_block ?_)
    refine V_drawX (P := Tryz.prog) Mix.h [(0, true), (1, true), (2, true), (3, true), (4, true), (5, true), (6, true), (7, true), (8, true), (9, true), (10, true), (11, true), (12, true), (13, false), (14, true), (15, false), (16, false), (17, true)] (by kernel_rfl) ?_
    refine goY ?_
    refine VY_ri rfl (QR_ixn y3 (gParam hx6)) ?_
    refine goY ?_
    refine VY_ri rfl (QR_ixn y3 (gParam hx6)) ?_
    refine goY ?_
    obtain ⟨g7, h⟩ := gd_s h
    obtain ⟨x8, hx8, h⟩ := lt_x h
    obtain ⟨x8_0, x8_1, x8_2⟩ := x8
    have sx8 := u_sCopyType (TType.mk x6_1_0 x6_1_1 x6_1_2) g7
    rw [hx8] at sx8
    refine VY_co (sx8) ?_
    refine goY ?_
    refine VY_l1t (T := 95) (TParam.mk x6_0 (TType.mk x8_0 x8_1 x8_2)) ?_
    obtain ⟨g9, h⟩ := gd_s h
    refine VY_ap (T := 95) g9 ?_
    refine goY ?_
    refine VY_nil ?_
    refine goL ?_
    refine VO_r (QR_inc y3 (by omega)) ?_
    refine goL ?_
    exact ⟨(y3 + 1), (y1 ++ [(TParam.mk x6_0 (TType.mk x8_0 x8_1 x8_2))]), (v2 + 1), h, by omega, ⟨rfl, ⟨⟨rfl, rfl⟩, ⟨rfl, rfl⟩, ⟨rfl, rfl⟩, ⟨rfl, rfl⟩, trivial⟩, ⟨_, rfl⟩, rfl⟩⟩
  · have hky32 := kgeN c5
    rw [drop_end hky32, b_sFn_l1.eq_1] at h
    refine V_exit ?_
    show V _ _ _ _ _
    refine goL ?_
    refine VO_l0 ?_
    refine goL ?_
    obtain ⟨g10, h⟩ := gd_s h
    refine VO_ap g10 ?_
    refine goL ?_
    obtain ⟨g11, h⟩ := gd_s h
    obtain ⟨x12, hx12, h⟩ := lt_x h
    have sx12 := t_sBounds a0_2 g11
    rw [hx12] at sx12
    refine VO_co (sx12) ?_
    refine goL ?_
    obtain ⟨g13, h⟩ := gd_s h
    obtain ⟨x14, hx14, h⟩ := lt_x h
    obtain ⟨x14_0, x14_1, x14_2⟩ := x14
    have sx14 := u_sCopyType (TType.mk a0_4_0 a0_4_1 a0_4_2) g13
    rw [hx14] at sx14
    refine VO_co (sx14) ?_
    refine goL ?_
    obtain ⟨g15, h⟩ := gd_s h
    obtain ⟨x16, hx16, h⟩ := lt_x h
    obtain ⟨x16_0, x16_1, x16_2, x16_3, ⟨x16_4_0, x16_4_1, x16_4_2⟩, x16_5, x16_6⟩ := x16
    have sx16 := u_sCopyEx (TExpr.mk a0_5_0 a0_5_1 a0_5_2 a0_5_3 (TType.mk a0_5_4_0 a0_5_4_1 a0_5_4_2) a0_5_5 a0_5_6) g15
    rw [hx16] at sx16
    refine VO_co (sx16) ?_
    refine goL ?_
    refine V_ret ?_
    replace h := Option.some.inj h
    subst h
    exact R_rO
theorem sFn_l1_eq (a0 : TFunction) : ∀ (xs y : List TParam), Ws (eParams xs) ≤ 4294967296 → y.length + xs.length ≤ 4294967296 → b_sFn_l1 a0 xs y = b_sFn_l1 a0 [] (y ++ xs)
  | [], y, _, h => by rw [List.append_nil]
  | x :: xs, y, h, h2 => by
    obtain ⟨z0, z1⟩ := x
    simp only [eParams, Ws, eParam, W, eTypes_ln, eStrs_ln, eExprs_ln, eArms_ln, eBounds_ln, eSignatures_ln, eConstructors_ln, eMethods_ln, eParams_ln, eTraits_ln, eDataTypes_ln, eInstances_ln, eFunctions_ln, ePackages_ln] at h
    simp only [List.length_cons] at h2
    rw [b_sFn_l1.eq_2]
    simp only [lt_, idX]
    repeat rw [gd_eq (by first | omega | (simp only [eParam, W, Ws, eTypes_ln, eStrs_ln, eExprs_ln, eArms_ln, eBounds_ln, eSignatures_ln, eConstructors_ln, eMethods_ln, eParams_ln, eTraits_ln, eDataTypes_ln, eInstances_ln, eFunctions_ln, ePackages_ln]; omega) | (simp only [List.length_nil, List.length_cons, List.length_set, List.length_append, Nat.zero_add, W, Ws, eTypes_ln, eStrs_ln, eExprs_ln, eArms_ln, eBounds_ln, eSignatures_ln, eConstructors_ln, eMethods_ln, eParams_ln, eTraits_ln, eDataTypes_ln, eInstances_ln, eFunctions_ln, ePackages_ln]; omega) | (simp; omega))]
    rw [sFn_l1_eq a0 xs _ (by omega) (by simp only [List.length_append, List.length_cons, List.length_nil]; omega)]
    simp only [List.append_assoc, List.cons_append, List.nil_append]
theorem sFn_eq (x : TFunction) (h : W (eFunction x) ≤ 4294967296) : b_sFn x = some (idX x) := by
  obtain ⟨z0, z1, z2, z3, z4, z5⟩ := x
  simp only [eFunction, W, Ws, eTypes_ln, eStrs_ln, eExprs_ln, eArms_ln, eBounds_ln, eSignatures_ln, eConstructors_ln, eMethods_ln, eParams_ln, eTraits_ln, eDataTypes_ln, eInstances_ln, eFunctions_ln, ePackages_ln] at h
  unfold b_sFn
  simp only [lt_, idX]
  repeat rw [gd_eq (by first | omega | (simp only [W, Ws, eTypes_ln, eStrs_ln, eExprs_ln, eArms_ln, eBounds_ln, eSignatures_ln, eConstructors_ln, eMethods_ln, eParams_ln, eTraits_ln, eDataTypes_ln, eInstances_ln, eFunctions_ln, ePackages_ln]; omega) | (simp only [List.length_nil, List.length_cons, List.length_set, List.length_append, Nat.zero_add, W, Ws, eTypes_ln, eStrs_ln, eExprs_ln, eArms_ln, eBounds_ln, eSignatures_ln, eConstructors_ln, eMethods_ln, eParams_ln, eTraits_ln, eDataTypes_ln, eInstances_ln, eFunctions_ln, ePackages_ln]; omega) | (simp; omega))]
  rw [sFn_l1_eq _ _ [] (by omega) (by simp only [List.length_nil]; omega)]
  rw [b_sFn_l1.eq_1]
  simp only [lt_, idX, List.take_zero, List.nil_append]
  repeat rw [gd_eq (by first | omega | (simp only [W, Ws, eTypes_ln, eStrs_ln, eExprs_ln, eArms_ln, eBounds_ln, eSignatures_ln, eConstructors_ln, eMethods_ln, eParams_ln, eTraits_ln, eDataTypes_ln, eInstances_ln, eFunctions_ln, ePackages_ln]; omega) | (simp only [List.length_nil, List.length_cons, List.length_set, List.length_append, Nat.zero_add, W, Ws, eTypes_ln, eStrs_ln, eExprs_ln, eArms_ln, eBounds_ln, eSignatures_ln, eConstructors_ln, eMethods_ln, eParams_ln, eTraits_ln, eDataTypes_ln, eInstances_ln, eFunctions_ln, ePackages_ln]; omega) | (simp; omega))]
  try rfl
theorem t_sFn (x : TFunction) (h : W (eFunction x) ≤ 4294967296) : SpecO Tryz.prog 112 [.d (eFunction x)] [9, 180, 182, 84, 84, 118, 271] [eFunction (idX x)] := w_sFn x (sFn_eq x h)
def b_sPkg_l4 (a0 : TPackage) (y2 : List TTrait) (y11 : List TDataType) (y20 : List TInstance) : List TFunction → (List TFunction) → Option (TPackage)
  | [], y29 => (some (TPackage.mk a0.name ([] ++ a0.deps) y2 y11 y20 y29))
  | x34 :: xs, y29 => gd (W (eFunction x34) ≤ 4294967296) (lt_ (idX x34) fun x36 =>
gd (y29.length + [x36].length ≤ 4294967296) (
b_sPkg_l4 a0 y2 y11 y20 xs (y29 ++ [x36])))
def b_sPkg_l3 (a0 : TPackage) (y2 : List TTrait) (y11 : List TDataType) : List TInstance → (List TInstance) → Option (TPackage)
  | [], y20 => b_sPkg_l4 a0 y2 y11 y20 a0.functions []
  | x25 :: xs, y20 => gd (W (eInstance x25) ≤ 4294967296) (lt_ (idX x25) fun x27 =>
gd (y20.length + [x27].length ≤ 4294967296) (
b_sPkg_l3 a0 y2 y11 xs (y20 ++ [x27])))
def b_sPkg_l2 (a0 : TPackage) (y2 : List TTrait) : List TDataType → (List TDataType) → Option (TPackage)
  | [], y11 => b_sPkg_l3 a0 y2 y11 a0.instances []
  | x16 :: xs, y11 => gd (W (eDataType x16) ≤ 4294967296) (lt_ (idX x16) fun x18 =>
gd (y11.length + [x18].length ≤ 4294967296) (
b_sPkg_l2 a0 y2 xs (y11 ++ [x18])))
def b_sPkg_l1 (a0 : TPackage) : List TTrait → (List TTrait) → Option (TPackage)
  | [], y2 => b_sPkg_l2 a0 y2 a0.dataTypes []
  | x7 :: xs, y2 => gd (W (eTrait x7) ≤ 4294967296) (lt_ (idX x7) fun x9 =>
gd (y2.length + [x9].length ≤ 4294967296) (
b_sPkg_l1 a0 xs (y2 ++ [x9])))
def b_sPkg (a0 : TPackage) : Option (TPackage) :=
gd (([] : List (List UInt8)).length + a0.deps.length ≤ 4294967296) (
b_sPkg_l1 a0 a0.traits [])
set_option maxHeartbeats 4000000 in
theorem w_sPkg (a0 : TPackage) {r : TPackage} (h : b_sPkg a0 = some r) : SpecO Tryz.prog 68 [.d (ePackage a0)] [9, 112, 195, 88, 199] [ePackage r] := by
  obtain ⟨a0_0, a0_1, a0_2, a0_3, a0_4, a0_5⟩ := a0
  unfold b_sPkg at h
  refine SpecO_intro Tryz.func68 rfl (by kernel_rfl) rfl (by simp) fun A _ => ?_
  refine goNL ?_
  obtain ⟨g1, h⟩ := gd_s h
  refine V_seq_drawTJ (P := Tryz.prog) Mix.h (.q 0 (.q 1 (.q 3 (.q 4 (.h 2 (.h 5 (.q 6 (.h 7 (.h 8 .nil .nil) .nil)) (.h 7 (.h 5 (.q 6 (.h 8 .nil .nil)) .nil) .nil)) (.h 7 (.h 2 (.h 5 (.q 6 (.h 8 .nil .nil)) .nil) .nil) .nil)))))) ⟨[(1, .ptr 0 0), (2, .ptr 1 0), (3, .ptr 3 0)], [.box [.d (.s a0_0), .d (.sl 1 (eStrs a0_1)), .d (.sl 5 (eTraits a0_2)), .d (.sl 3 (eDataTypes a0_3)), .d (.sl 12 (eInstances a0_4)), .d (.sl 16 (eFunctions a0_5))], .box [.d (.s []), .nilsl, .nilsl, .nilsl, .nilsl, .nilsl], .own 9 1 (0 + 1) (eStrs ([] ++ a0_1)), .box [.d (.s a0_0), .sl 2 (0 + 1), .nilsl, .nilsl, .nilsl, .nilsl]], Tryz.f68.ntmps⟩ (by kernel_rfl) ?_ ?_
  · refine goT ?_
    refine VT_h (VY_l0 VY_e) ?_ ?_
    · refine VT_h (VY_ap (T := 67) g1 VY_e) ?_ ?_
      · refine goT ?_
        refine VT_nil ?_
        exact R_pk 0 [0, 1, 2, 3]
      refine goT ?_
      refine VT_h1 (VY_ap (T := 67) g1 VY_e) ?_
      refine goT ?_
      refine VT_nil ?_
      exact R_pk 0 [0, 1, 2, 3]
    refine goT ?_
    refine VT_h1 (VY_l0 VY_e) ?_
    refine VT_h1 (VY_ap (T := 67) g1 VY_e) ?_
    refine goT ?_
    refine VT_nil ?_
    exact R_pk 0 [0, 1, 3, 2]
  refine goL ?_
  refine V_block ?_
  show V _ _ _ _ _
  refine V_adopt 112 5 3 2 rfl rfl (by repeat constructor) (by repeat constructor) (by repeat constructor) (by repeat constructor) ?_
  show V _ _ _ _ _
  refine V_bdc 0 2 (fun z5 => ?_)
  refine V_loop3 (fun (y4 : Nat) (y2 : List TTrait) (v3 : Nat) => ⟨[(1, .ptr 0 0), (2, .ptr 1 0), (3, .ptr 3 0), (4, .d (.i .i64 (y4 : Int)))], [.box [.d (.s a0_0), .d (.sl 1 (eStrs a0_1)), .d (.sl 5 (eTraits a0_2)), .d (.sl 3 (eDataTypes a0_3)), .d (.sl 12 (eInstances a0_4)), .d (.sl 16 (eFunctions a0_5))], .box [.d (.s []), .nilsl, .nilsl, .nilsl, .nilsl, .nilsl], .own 9 1 (0 + 1) (eStrs ([] ++ a0_1)), .box [.d (.s a0_0), .sl 2 (0 + 1), .sl 4 v3, .nilsl, .nilsl, .nilsl], .own 112 5 v3 (eTraits y2)], Tryz.f68.ntmps⟩) (fun y4 y2 v3 => b_sPkg_l1 (TPackage.mk a0_0 a0_1 a0_2 a0_3 a0_4 a0_5) (a0_2.drop y4) y2 = some r) (fun y4 y2 v3 => a0_2.length - y4) 0 [] 0 ⟨rfl, ⟨⟨rfl, rfl⟩, ⟨rfl, rfl⟩, ⟨rfl, rfl⟩, ⟨rfl, rfl⟩, trivial⟩, ⟨[], rfl⟩, rfl⟩ h ?_
  rintro y4 y2 v3 h
  refine goL ?_
  refine V_cb (fun c6 => ?_) (fun c6 => ?_)
  · have hky42 := kltN c6
    obtain ⟨x7, hx7, hdx7⟩ := drop_at hky42
    rw [hdx7, b_sPkg_l1.eq_2] at h
    obtain ⟨x7_0, x7_1, x7_2, x7_3, x7_4⟩ := x7
    refine V_skip ?_
    show V _ _ _ _ _
    refine V_seq (V_block ?_)
    refine V_drawX (P := Tryz.prog) Mix.h [(0, true), (1, true), (2, true), (3, true), (4, true), (5, true), (6, true), (7, false), (8, false), (9, false), (10, true), (11, false)] (by kernel_rfl) ?_
    refine goY ?_
    refine VY_ri rfl (QR_ixn y4 (gTrait hx7)) ?_
    refine goY ?_
    obtain ⟨g8, h⟩ := gd_s h
    obtain ⟨x9, hx9, h⟩ := lt_x h
    obtain ⟨x9_0, x9_1, x9_2, x9_3, x9_4⟩ := x9
    have sx9 := t_sTrait (TTrait.mk x7_0 x7_1 x7_2 x7_3 x7_4) g8
    rw [hx9] at sx9
    refine VY_co (sx9) ?_
    refine VY_l1t (T := 123) (TTrait.mk x9_0 x9_1 x9_2 x9_3 x9_4) ?_
    obtain ⟨g10, h⟩ := gd_s h
    refine VY_ap (T := 123) g10 ?_
    refine goY ?_
    refine VY_nil ?_
    refine goL ?_
    refine VO_r (QR_inc y4 (by omega)) ?_
    refine goL ?_
    exact ⟨(y4 + 1), (y2 ++ [(TTrait.mk x9_0 x9_1 x9_2 x9_3 x9_4)]), (v3 + 1), h, by omega, ⟨rfl, ⟨⟨rfl, rfl⟩, ⟨rfl, rfl⟩, ⟨rfl, rfl⟩, ⟨rfl, rfl⟩, trivial⟩, ⟨_, rfl⟩, rfl⟩⟩
  · have hky42 := kgeN c6
    rw [drop_end hky42, b_sPkg_l1.eq_1] at h
    refine V_exit ?_
    show V _ _ _ _ _
    refine goL ?_
    refine V_block ?_
    show V _ _ _ _ _
    refine V_adopt 195 3 3 3 rfl rfl (by repeat constructor) (by repeat constructor) (by repeat constructor) (by repeat constructor) ?_
    show V _ _ _ _ _
    refine V_bdc 0 3 (fun z14 => ?_)
    refine V_loop3 (fun (y13 : Nat) (y11 : List TDataType) (v12 : Nat) => ⟨[(1, .ptr 0 0), (2, .ptr 1 0), (3, .ptr 3 0), (5, .d (.i .i64 (y13 : Int)))], [.box [.d (.s a0_0), .d (.sl 1 (eStrs a0_1)), .d (.sl 5 (eTraits a0_2)), .d (.sl 3 (eDataTypes a0_3)), .d (.sl 12 (eInstances a0_4)), .d (.sl 16 (eFunctions a0_5))], .box [.d (.s []), .nilsl, .nilsl, .nilsl, .nilsl, .nilsl], .own 9 1 (0 + 1) (eStrs ([] ++ a0_1)), .box [.d (.s a0_0), .sl 2 (0 + 1), .sl 4 v3, .sl 5 v12, .nilsl, .nilsl], .own 112 5 v3 (eTraits y2), .own 195 3 v12 (eDataTypes y11)], Tryz.f68.ntmps⟩) (fun y13 y11 v12 => b_sPkg_l2 (TPackage.mk a0_0 a0_1 a0_2 a0_3 a0_4 a0_5) y2 (a0_3.drop y13) y11 = some r) (fun y13 y11 v12 => a0_3.length - y13) 0 [] 0 ⟨rfl, ⟨⟨rfl, rfl⟩, ⟨rfl, rfl⟩, ⟨rfl, rfl⟩, ⟨rfl, rfl⟩, trivial⟩, ⟨[], rfl⟩, rfl⟩ h ?_
    rintro y13 y11 v12 h
    refine goL ?_
    refine V_cb (fun c15 => ?_) (fun c15 => ?_)
    · have hky132 := kltN c15
      obtain ⟨x16, hx16, hdx16⟩ := drop_at hky132
      rw [hdx16, b_sPkg_l2.eq_2] at h
      obtain ⟨x16_0, x16_1, x16_2⟩ := x16
      refine V_skip ?_
      show V _ _ _ _ _
      refine V_seq (V_block ?_)
      refine V_drawX (P := Tryz.prog) Mix.h [(0, true), (1, true), (2, true), (3, true), (4, true), (5, true), (6, true), (7, false), (8, false), (9, false), (10, true), (11, false)] (by kernel_rfl) ?_
      refine goY ?_
      refine VY_ri rfl (QR_ixn y13 (gDataType hx16)) ?_
      refine goY ?_
      obtain ⟨g17, h⟩ := gd_s h
      obtain ⟨x18, hx18, h⟩ := lt_x h
      obtain ⟨x18_0, x18_1, x18_2⟩ := x18
      have sx18 := t_sData (TDataType.mk x16_0 x16_1 x16_2) g17
      rw [hx18] at sx18
      refine VY_co (sx18) ?_
      refine VY_l1t (T := 124) (TDataType.mk x18_0 x18_1 x18_2) ?_
      obtain ⟨g19, h⟩ := gd_s h
      refine VY_ap (T := 124) g19 ?_
      refine goY ?_
      refine VY_nil ?_
      refine goL ?_
      refine VO_r (QR_inc y13 (by omega)) ?_
      refine goL ?_
      exact ⟨(y13 + 1), (y11 ++ [(TDataType.mk x18_0 x18_1 x18_2)]), (v12 + 1), h, by omega, ⟨rfl, ⟨⟨rfl, rfl⟩, ⟨rfl, rfl⟩, ⟨rfl, rfl⟩, ⟨rfl, rfl⟩, trivial⟩, ⟨_, rfl⟩, rfl⟩⟩
    · have hky132 := kgeN c15
      rw [drop_end hky132, b_sPkg_l2.eq_1] at h
      refine V_exit ?_
      show V _ _ _ _ _
      refine goL ?_
      refine V_block ?_
      show V _ _ _ _ _
      refine V_adopt 88 12 3 4 rfl rfl (by repeat constructor) (by repeat constructor) (by repeat constructor) (by repeat constructor) ?_
      show V _ _ _ _ _
      refine V_bdc 0 4 (fun z23 => ?_)
      refine V_loop3 (fun (y22 : Nat) (y20 : List TInstance) (v21 : Nat) => ⟨[(1, .ptr 0 0), (2, .ptr 1 0), (3, .ptr 3 0), (6, .d (.i .i64 (y22 : Int)))], [.box [.d (.s a0_0), .d (.sl 1 (eStrs a0_1)), .d (.sl 5 (eTraits a0_2)), .d (.sl 3 (eDataTypes a0_3)), .d (.sl 12 (eInstances a0_4)), .d (.sl 16 (eFunctions a0_5))], .box [.d (.s []), .nilsl, .nilsl, .nilsl, .nilsl, .nilsl], .own 9 1 (0 + 1) (eStrs ([] ++ a0_1)), .box [.d (.s a0_0), .sl 2 (0 + 1), .sl 4 v3, .sl 5 v12, .sl 6 v21, .nilsl], .own 112 5 v3 (eTraits y2), .own 195 3 v12 (eDataTypes y11), .own 88 12 v21 (eInstances y20)], Tryz.f68.ntmps⟩) (fun y22 y20 v21 => b_sPkg_l3 (TPackage.mk a0_0 a0_1 a0_2 a0_3 a0_4 a0_5) y2 y11 (a0_4.drop y22) y20 = some r) (fun y22 y20 v21 => a0_4.length - y22) 0 [] 0 ⟨rfl, ⟨⟨rfl, rfl⟩, ⟨rfl, rfl⟩, ⟨rfl, rfl⟩, ⟨rfl, rfl⟩, trivial⟩, ⟨[], rfl⟩, rfl⟩ h ?_
      rintro y22 y20 v21 h
      refine goL ?_
      refine V_cb (fun c24 => ?_) (fun c24 => ?_)
      · have hky222 := kltN c24
        obtain ⟨x25, hx25, hdx25⟩ := drop_at hky222
        rw [hdx25, b_sPkg_l3.eq_2] at h
        obtain ⟨x25_0, x25_1, ⟨x25_2_0, x25_2_1, x25_2_2⟩, x25_3, x25_4, x25_5, ⟨x25_6_0, x25_6_1, x25_6_2⟩, x25_7⟩ := x25
        refine V_skip ?_
        show V _ _ _ _ _
        refine V_seq (V_block ?_)
        refine V_drawX (P := Tryz.prog) Mix.h [(0, true), (1, true), (2, true), (3, true), (4, true), (5, true), (6, true), (7, false), (8, false), (9, false), (10, true), (11, false)] (by kernel_rfl) ?_
        refine goY ?_
        refine VY_ri rfl (QR_ixn y22 (gInstance hx25)) ?_
        refine goY ?_
        obtain ⟨g26, h⟩ := gd_s h
        obtain ⟨x27, hx27, h⟩ := lt_x h
        obtain ⟨x27_0, x27_1, ⟨x27_2_0, x27_2_1, x27_2_2⟩, x27_3, x27_4, x27_5, ⟨x27_6_0, x27_6_1, x27_6_2⟩, x27_7⟩ := x27
        have sx27 := t_sInst (TInstance.mk x25_0 x25_1 (TType.mk x25_2_0 x25_2_1 x25_2_2) x25_3 x25_4 x25_5 (TType.mk x25_6_0 x25_6_1 x25_6_2) x25_7) g26
        rw [hx27] at sx27
        refine VY_co (sx27) ?_
        refine VY_l1t (T := 125) (TInstance.mk x27_0 x27_1 (TType.mk x27_2_0 x27_2_1 x27_2_2) x27_3 x27_4 x27_5 (TType.mk x27_6_0 x27_6_1 x27_6_2) x27_7) ?_
        obtain ⟨g28, h⟩ := gd_s h
        refine VY_ap (T := 125) g28 ?_
        refine goY ?_
        refine VY_nil ?_
        refine goL ?_
        refine VO_r (QR_inc y22 (by omega)) ?_
        refine goL ?_
        exact ⟨(y22 + 1), (y20 ++ [(TInstance.mk x27_0 x27_1 (TType.mk x27_2_0 x27_2_1 x27_2_2) x27_3 x27_4 x27_5 (TType.mk x27_6_0 x27_6_1 x27_6_2) x27_7)]), (v21 + 1), h, by omega, ⟨rfl, ⟨⟨rfl, rfl⟩, ⟨rfl, rfl⟩, ⟨rfl, rfl⟩, ⟨rfl, rfl⟩, trivial⟩, ⟨_, rfl⟩, rfl⟩⟩
      · have hky222 := kgeN c24
        rw [drop_end hky222, b_sPkg_l3.eq_1] at h
        refine V_exit ?_
        show V _ _ _ _ _
        refine goL ?_
        refine V_block ?_
        show V _ _ _ _ _
        refine V_adopt 199 16 3 5 rfl rfl (by repeat constructor) (by repeat constructor) (by repeat constructor) (by repeat constructor) ?_
        show V _ _ _ _ _
        refine V_bdc 0 5 (fun z32 => ?_)
        refine V_loop3 (fun (y31 : Nat) (y29 : List TFunction) (v30 : Nat) => ⟨[(1, .ptr 0 0), (2, .ptr 1 0), (3, .ptr 3 0), (7, .d (.i .i64 (y31 : Int)))], [.box [.d (.s a0_0), .d (.sl 1 (eStrs a0_1)), .d (.sl 5 (eTraits a0_2)), .d (.sl 3 (eDataTypes a0_3)), .d (.sl 12 (eInstances a0_4)), .d (.sl 16 (eFunctions a0_5))], .box [.d (.s []), .nilsl, .nilsl, .nilsl, .nilsl, .nilsl], .own 9 1 (0 + 1) (eStrs ([] ++ a0_1)), .box [.d (.s a0_0), .sl 2 (0 + 1), .sl 4 v3, .sl 5 v12, .sl 6 v21, .sl 7 v30], .own 112 5 v3 (eTraits y2), .own 195 3 v12 (eDataTypes y11), .own 88 12 v21 (eInstances y20), .own 199 16 v30 (eFunctions y29)], Tryz.f68.ntmps⟩) (fun y31 y29 v30 => b_sPkg_l4 (TPackage.mk a0_0 a0_1 a0_2 a0_3 a0_4 a0_5) y2 y11 y20 (a0_5.drop y31) y29 = some r) (fun y31 y29 v30 => a0_5.length - y31) 0 [] 0 ⟨rfl, ⟨⟨rfl, rfl⟩, ⟨rfl, rfl⟩, ⟨rfl, rfl⟩, ⟨rfl, rfl⟩, trivial⟩, ⟨[], rfl⟩, rfl⟩ h ?_
        rintro y31 y29 v30 h
        refine goL ?_
        refine V_cb (fun c33 => ?_) (fun c33 => ?_)
        · have hky312 := kltN c33
          obtain ⟨x34, hx34, hdx34⟩ := drop_at hky312
          rw [hdx34, b_sPkg_l4.eq_2] at h
          obtain ⟨x34_0, x34_1, x34_2, x34_3, ⟨x34_4_0, x34_4_1, x34_4_2⟩, ⟨x34_5_0, x34_5_1, x34_5_2, x34_5_3, ⟨x34_5_4_0, x34_5_4_1, x34_5_4_2⟩, x34_5_5, x34_5_6⟩⟩ := x34
          refine V_skip ?_
          show V _ _ _ _ _
          refine V_seq (V_block ?_)
          refine V_drawX (P := Tryz.prog) Mix.h [(0, true), (1, true), (2, true), (3, true), (4, true), (5, true), (6, true), (7, false), (8, false), (9, false), (10, true), (11, false)] (by kernel_rfl) ?_
          refine goY ?_
          refine VY_ri rfl (QR_ixn y31 (gFunction hx34)) ?_
          refine goY ?_
          obtain ⟨g35, h⟩ := gd_s h
          obtain ⟨x36, hx36, h⟩ := lt_x h
          obtain ⟨x36_0, x36_1, x36_2, x36_3, ⟨x36_4_0, x36_4_1, x36_4_2⟩, ⟨x36_5_0, x36_5_1, x36_5_2, x36_5_3, ⟨x36_5_4_0, x36_5_4_1, x36_5_4_2⟩, x36_5_5, x36_5_6⟩⟩ := x36
          have sx36 := t_sFn (TFunction.mk x34_0 x34_1 x34_2 x34_3 (TType.mk x34_4_0 x34_4_1 x34_4_2) (TExpr.mk x34_5_0 x34_5_1 x34_5_2 x34_5_3 (TType.mk x34_5_4_0 x34_5_4_1 x34_5_4_2) x34_5_5 x34_5_6)) g35
          rw [hx36] at sx36
          refine VY_co (sx36) ?_
          refine VY_l1t (T := 126) (TFunction.mk x36_0 x36_1 x36_2 x36_3 (TType.mk x36_4_0 x36_4_1 x36_4_2) (TExpr.mk x36_5_0 x36_5_1 x36_5_2 x36_5_3 (TType.mk x36_5_4_0 x36_5_4_1 x36_5_4_2) x36_5_5 x36_5_6)) ?_
          obtain ⟨g37, h⟩ := gd_s h
          refine VY_ap (T := 126) g37 ?_
          refine goY ?_
          refine VY_nil ?_
          refine goL ?_
          refine VO_r (QR_inc y31 (by omega)) ?_
          refine goL ?_
          exact ⟨(y31 + 1), (y29 ++ [(TFunction.mk x36_0 x36_1 x36_2 x36_3 (TType.mk x36_4_0 x36_4_1 x36_4_2) (TExpr.mk x36_5_0 x36_5_1 x36_5_2 x36_5_3 (TType.mk x36_5_4_0 x36_5_4_1 x36_5_4_2) x36_5_5 x36_5_6))]), (v30 + 1), h, by omega, ⟨rfl, ⟨⟨rfl, rfl⟩, ⟨rfl, rfl⟩, ⟨rfl, rfl⟩, ⟨rfl, rfl⟩, trivial⟩, ⟨_, rfl⟩, rfl⟩⟩
        · have hky312 := kgeN c33
          rw [drop_end hky312, b_sPkg_l4.eq_1] at h
          refine V_exit ?_
          show V _ _ _ _ _
          refine goL ?_
          refine V_ret ?_
          replace h := Option.some.inj h
          subst h
          exact R_rO
theorem sPkg_l4_eq (a0 : TPackage) (y2 : List TTrait) (y11 : List TDataType) (y20 : List TInstance) : ∀ (xs y : List TFunction), Ws (eFunctions xs) ≤ 4294967296 → y.length + xs.length ≤ 4294967296 → b_sPkg_l4 a0 y2 y11 y20 xs y = b_sPkg_l4 a0 y2 y11 y20 [] (y ++ xs)
  | [], y, _, h => by rw [List.append_nil]
  | x :: xs, y, h, h2 => by
    obtain ⟨z0, z1, z2, z3, z4, z5⟩ := x
    simp only [eFunctions, Ws, eFunction, W, eTypes_ln, eStrs_ln, eExprs_ln, eArms_ln, eBounds_ln, eSignatures_ln, eConstructors_ln, eMethods_ln, eParams_ln, eTraits_ln, eDataTypes_ln, eInstances_ln, eFunctions_ln, ePackages_ln] at h
    simp only [List.length_cons] at h2
    rw [b_sPkg_l4.eq_2]
    simp only [lt_, idX]
    repeat rw [gd_eq (by first | omega | (simp only [eFunction, W, Ws, eTypes_ln, eStrs_ln, eExprs_ln, eArms_ln, eBounds_ln, eSignatures_ln, eConstructors_ln, eMethods_ln, eParams_ln, eTraits_ln, eDataTypes_ln, eInstances_ln, eFunctions_ln, ePackages_ln]; omega) | (simp only [List.length_nil, List.length_cons, List.length_set, List.length_append, Nat.zero_add, W, Ws, eTypes_ln, eStrs_ln, eExprs_ln, eArms_ln, eBounds_ln, eSignatures_ln, eConstructors_ln, eMethods_ln, eParams_ln, eTraits_ln, eDataTypes_ln, eInstances_ln, eFunctions_ln, ePackages_ln]; omega) | (simp; omega))]
    rw [sPkg_l4_eq a0 y2 y11 y20 xs _ (by omega) (by simp only [List.length_append, List.length_cons, List.length_nil]; omega)]
    simp only [List.append_assoc, List.cons_append, List.nil_append]
theorem sPkg_l3_eq (a0 : TPackage) (y2 : List TTrait) (y11 : List TDataType) : ∀ (xs y : List TInstance), Ws (eInstances xs) ≤ 4294967296 → y.length + xs.length ≤ 4294967296 → b_sPkg_l3 a0 y2 y11 xs y = b_sPkg_l3 a0 y2 y11 [] (y ++ xs)
  | [], y, _, h => by rw [List.append_nil]
  | x :: xs, y, h, h2 => by
    obtain ⟨z0, z1, z2, z3, z4, z5, z6, z7⟩ := x
    simp only [eInstances, Ws, eInstance, W, eTypes_ln, eStrs_ln, eExprs_ln, eArms_ln, eBounds_ln, eSignatures_ln, eConstructors_ln, eMethods_ln, eParams_ln, eTraits_ln, eDataTypes_ln, eInstances_ln, eFunctions_ln, ePackages_ln] at h
    simp only [List.length_cons] at h2
    rw [b_sPkg_l3.eq_2]
    simp only [lt_, idX]
    repeat rw [gd_eq (by first | omega | (simp only [eInstance, W, Ws, eTypes_ln, eStrs_ln, eExprs_ln, eArms_ln, eBounds_ln, eSignatures_ln, eConstructors_ln, eMethods_ln, eParams_ln, eTraits_ln, eDataTypes_ln, eInstances_ln, eFunctions_ln, ePackages_ln]; omega) | (simp only [List.length_nil, List.length_cons, List.length_set, List.length_append, Nat.zero_add, W, Ws, eTypes_ln, eStrs_ln, eExprs_ln, eArms_ln, eBounds_ln, eSignatures_ln, eConstructors_ln, eMethods_ln, eParams_ln, eTraits_ln, eDataTypes_ln, eInstances_ln, eFunctions_ln, ePackages_ln]; omega) | (simp; omega))]
    rw [sPkg_l3_eq a0 y2 y11 xs _ (by omega) (by simp only [List.length_append, List.length_cons, List.length_nil]; omega)]
    simp only [List.append_assoc, List.cons_append, List.nil_append]
theorem sPkg_l2_eq (a0 : TPackage) (y2 : List TTrait) : ∀ (xs y : List TDataType), Ws (eDataTypes xs) ≤ 4294967296 → y.length + xs.length ≤ 4294967296 → b_sPkg_l2 a0 y2 xs y = b_sPkg_l2 a0 y2 [] (y ++ xs)
  | [], y, _, h => by rw [List.append_nil]
  | x :: xs, y, h, h2 => by
    obtain ⟨z0, z1, z2⟩ := x
    simp only [eDataTypes, Ws, eDataType, W, eTypes_ln, eStrs_ln, eExprs_ln, eArms_ln, eBounds_ln, eSignatures_ln, eConstructors_ln, eMethods_ln, eParams_ln, eTraits_ln, eDataTypes_ln, eInstances_ln, eFunctions_ln, ePackages_ln] at h
    simp only [List.length_cons] at h2
    rw [b_sPkg_l2.eq_2]
    simp only [lt_, idX]
    repeat rw [gd_eq (by first | omega | (simp only [eDataType, W, Ws, eTypes_ln, eStrs_ln, eExprs_ln, eArms_ln, eBounds_ln, eSignatures_ln, eConstructors_ln, eMethods_ln, eParams_ln, eTraits_ln, eDataTypes_ln, eInstances_ln, eFunctions_ln, ePackages_ln]; omega) | (simp only [List.length_nil, List.length_cons, List.length_set, List.length_append, Nat.zero_add, W, Ws, eTypes_ln, eStrs_ln, eExprs_ln, eArms_ln, eBounds_ln, eSignatures_ln, eConstructors_ln, eMethods_ln, eParams_ln, eTraits_ln, eDataTypes_ln, eInstances_ln, eFunctions_ln, ePackages_ln]; omega) | (simp; omega))]
    rw [sPkg_l2_eq a0 y2 xs _ (by omega) (by simp only [List.length_append, List.length_cons, List.length_nil]; omega)]
    simp only [List.append_assoc, List.cons_append, List.nil_append]
theorem sPkg_l1_eq (a0 : TPackage) : ∀ (xs y : List TTrait), Ws (eTraits xs) ≤ 4294967296 → y.length + xs.length ≤ 4294967296 → b_sPkg_l1 a0 xs y = b_sPkg_l1 a0 [] (y ++ xs)
  | [], y, _, h => by rw [List.append_nil]
  | x :: xs, y, h, h2 => by
    obtain ⟨z0, z1, z2, z3, z4⟩ := x
    simp only [eTraits, Ws, eTrait, W, eTypes_ln, eStrs_ln, eExprs_ln, eArms_ln, eBounds_ln, eSignatures_ln, eConstructors_ln, eMethods_ln, eParams_ln, eTraits_ln, eDataTypes_ln, eInstances_ln, eFunctions_ln, ePackages_ln] at h
    simp only [List.length_cons] at h2
    rw [b_sPkg_l1.eq_2]
    simp only [lt_, idX]
    repeat rw [gd_eq (by first | omega | (simp only [eTrait, W, Ws, eTypes_ln, eStrs_ln, eExprs_ln, eArms_ln, eBounds_ln, eSignatures_ln, eConstructors_ln, eMethods_ln, eParams_ln, eTraits_ln, eDataTypes_ln, eInstances_ln, eFunctions_ln, ePackages_ln]; omega) | (simp only [List.length_nil, List.length_cons, List.length_set, List.length_append, Nat.zero_add, W, Ws, eTypes_ln, eStrs_ln, eExprs_ln, eArms_ln, eBounds_ln, eSignatures_ln, eConstructors_ln, eMethods_ln, eParams_ln, eTraits_ln, eDataTypes_ln, eInstances_ln, eFunctions_ln, ePackages_ln]; omega) | (simp; omega))]
    rw [sPkg_l1_eq a0 xs _ (by omega) (by simp only [List.length_append, List.length_cons, List.length_nil]; omega)]
    simp only [List.append_assoc, List.cons_append, List.nil_append]
theorem sPkg_eq (x : TPackage) (h : W (ePackage x) ≤ 4294967296) : b_sPkg x = some (idX x) := by
  obtain ⟨z0, z1, z2, z3, z4, z5⟩ := x
  simp only [ePackage, W, Ws, eTypes_ln, eStrs_ln, eExprs_ln, eArms_ln, eBounds_ln, eSignatures_ln, eConstructors_ln, eMethods_ln, eParams_ln, eTraits_ln, eDataTypes_ln, eInstances_ln, eFunctions_ln, ePackages_ln] at h
  unfold b_sPkg
  simp only [lt_, idX]
  repeat rw [gd_eq (by first | omega | (simp only [W, Ws, eTypes_ln, eStrs_ln, eExprs_ln, eArms_ln, eBounds_ln, eSignatures_ln, eConstructors_ln, eMethods_ln, eParams_ln, eTraits_ln, eDataTypes_ln, eInstances_ln, eFunctions_ln, ePackages_ln]; omega) | (simp only [List.length_nil, List.length_cons, List.length_set, List.length_append, Nat.zero_add, W, Ws, eTypes_ln, eStrs_ln, eExprs_ln, eArms_ln, eBounds_ln, eSignatures_ln, eConstructors_ln, eMethods_ln, eParams_ln, eTraits_ln, eDataTypes_ln, eInstances_ln, eFunctions_ln, ePackages_ln]; omega) | (simp; omega))]
  rw [sPkg_l1_eq _ _ [] (by omega) (by simp only [List.length_nil]; omega)]
  rw [b_sPkg_l1.eq_1]
  simp only [lt_, idX, List.take_zero, List.nil_append]
  repeat rw [gd_eq (by first | omega | (simp only [W, Ws, eTypes_ln, eStrs_ln, eExprs_ln, eArms_ln, eBounds_ln, eSignatures_ln, eConstructors_ln, eMethods_ln, eParams_ln, eTraits_ln, eDataTypes_ln, eInstances_ln, eFunctions_ln, ePackages_ln]; omega) | (simp only [List.length_nil, List.length_cons, List.length_set, List.length_append, Nat.zero_add, W, Ws, eTypes_ln, eStrs_ln, eExprs_ln, eArms_ln, eBounds_ln, eSignatures_ln, eConstructors_ln, eMethods_ln, eParams_ln, eTraits_ln, eDataTypes_ln, eInstances_ln, eFunctions_ln, ePackages_ln]; omega) | (simp; omega))]
  rw [sPkg_l2_eq _ _ _ [] (by omega) (by simp only [List.length_nil]; omega)]
  rw [b_sPkg_l2.eq_1]
  simp only [lt_, idX, List.take_zero, List.nil_append]
  repeat rw [gd_eq (by first | omega | (simp only [W, Ws, eTypes_ln, eStrs_ln, eExprs_ln, eArms_ln, eBounds_ln, eSignatures_ln, eConstructors_ln, eMethods_ln, eParams_ln, eTraits_ln, eDataTypes_ln, eInstances_ln, eFunctions_ln, ePackages_ln]; omega) | (simp only [List.length_nil, List.length_cons, List.length_set, List.length_append, Nat.zero_add, W, Ws, eTypes_ln, eStrs_ln, eExprs_ln, eArms_ln, eBounds_ln, eSignatures_ln, eConstructors_ln, eMethods_ln, eParams_ln, eTraits_ln, eDataTypes_ln, eInstances_ln, eFunctions_ln, ePackages_ln]; omega) | (simp; omega))]
  rw [sPkg_l3_eq _ _ _ _ [] (by omega) (by simp only [List.length_nil]; omega)]
  rw [b_sPkg_l3.eq_1]
  simp only [lt_, idX, List.take_zero, List.nil_append]
  repeat rw [gd_eq (by first | omega | (simp only [W, Ws, eTypes_ln, eStrs_ln, eExprs_ln, eArms_ln, eBounds_ln, eSignatures_ln, eConstructors_ln, eMethods_ln, eParams_ln, eTraits_ln, eDataTypes_ln, eInstances_ln, eFunctions_ln, ePackages_ln]; omega) | (simp only [List.length_nil, List.length_cons, List.length_set, List.length_append, Nat.zero_add, W, Ws, eTypes_ln, eStrs_ln, eExprs_ln, eArms_ln, eBounds_ln, eSignatures_ln, eConstructors_ln, eMethods_ln, eParams_ln, eTraits_ln, eDataTypes_ln, eInstances_ln, eFunctions_ln, ePackages_ln]; omega) | (simp; omega))]
  rw [sPkg_l4_eq _ _ _ _ _ [] (by omega) (by simp only [List.length_nil]; omega)]
  rw [b_sPkg_l4.eq_1]
  simp only [lt_, idX, List.take_zero, List.nil_append]
  repeat rw [gd_eq (by first | omega | (simp only [W, Ws, eTypes_ln, eStrs_ln, eExprs_ln, eArms_ln, eBounds_ln, eSignatures_ln, eConstructors_ln, eMethods_ln, eParams_ln, eTraits_ln, eDataTypes_ln, eInstances_ln, eFunctions_ln, ePackages_ln]; omega) | (simp only [List.length_nil, List.length_cons, List.length_set, List.length_append, Nat.zero_add, W, Ws, eTypes_ln, eStrs_ln, eExprs_ln, eArms_ln, eBounds_ln, eSignatures_ln, eConstructors_ln, eMethods_ln, eParams_ln, eTraits_ln, eDataTypes_ln, eInstances_ln, eFunctions_ln, ePackages_ln]; omega) | (simp; omega))]
  try rfl
theorem t_sPkg (x : TPackage) (h : W (ePackage x) ≤ 4294967296) : SpecO Tryz.prog 68 [.d (ePackage x)] [9, 112, 195, 88, 199] [ePackage (idX x)] := w_sPkg x (sPkg_eq x h)
def b_sProg_l1 : List TPackage → (List TPackage) → Option (TProgram)
  | [], y1 => (some (TProgram.mk y1))
  | x6 :: xs, y1 => gd (W (ePackage x6) ≤ 4294967296) (lt_ (idX x6) fun x8 =>
gd (y1.length + [x8].length ≤ 4294967296) (
b_sProg_l1 xs (y1 ++ [x8])))
def b_sProg (a0 : TProgram) : Option (TProgram) :=
b_sProg_l1 a0.packages []
set_option maxHeartbeats 4000000 in
theorem w_sProg (a0 : TProgram) {r : TProgram} (h : b_sProg a0 = some r) : SpecO Tryz.prog 26 [.d (eProgram a0)] [128] [eProgram r] := by
  obtain ⟨a0_0⟩ := a0
  unfold b_sProg at h
  refine SpecO_intro Tryz.func26 rfl (by kernel_rfl) rfl (by simp) fun A _ => ?_
  refine goL ?_
  refine VO_k (Q_build TBd.h TZ.h rfl (by repeat constructor)) ?_
  refine goL ?_
  refine V_block ?_
  show V _ _ _ _ _
  refine V_adopt 128 6 2 0 rfl rfl (by repeat constructor) (by repeat constructor) (by repeat constructor) (by repeat constructor) ?_
  show V _ _ _ _ _
  refine V_bdc 0 0 (fun z4 => ?_)
  refine V_loop3 (fun (y3 : Nat) (y1 : List TPackage) (v2 : Nat) => ⟨[(1, .ptr 0 0), (2, .ptr 1 0), (3, .ptr 2 0), (4, .d (.i .i64 (y3 : Int)))], [.box [.d (.sl 6 (ePackages a0_0))], .box [.nilsl], .box [.sl 3 v2], .own 128 6 v2 (ePackages y1)], Tryz.f26.ntmps⟩) (fun y3 y1 v2 => b_sProg_l1 (a0_0.drop y3) y1 = some r) (fun y3 y1 v2 => a0_0.length - y3) 0 [] 0 ⟨rfl, ⟨⟨rfl, rfl⟩, ⟨rfl, rfl⟩, ⟨rfl, rfl⟩, ⟨rfl, rfl⟩, trivial⟩, ⟨[], rfl⟩, rfl⟩ h ?_
  rintro y3 y1 v2 h
  refine goL ?_
  refine V_cb (fun c5 => ?_) (fun c5 => ?_)
  · have hky32 := kltN c5
    obtain ⟨x6, hx6, hdx6⟩ := drop_at hky32
    rw [hdx6, b_sProg_l1.eq_2] at h
    obtain ⟨x6_0, x6_1, x6_2, x6_3, x6_4, x6_5⟩ := x6
    refine V_skip ?_
    show V _ _ _ _ _
    refine V_seq (V_block ?_)
    refine V_drawX (P := Tryz.prog) Mix.h [(0, true), (1, true), (2, true), (3, true), (4, true), (5, true), (6, true), (7, false), (8, false), (9, false), (10, true), (11, false)] (by kernel_rfl) ?_
    refine goY ?_
    refine VY_ri rfl (QR_ixn y3 (gPackage hx6)) ?_
    refine goY ?_
    obtain ⟨g7, h⟩ := gd_s h
    obtain ⟨x8, hx8, h⟩ := lt_x h
    obtain ⟨x8_0, x8_1, x8_2, x8_3, x8_4, x8_5⟩ := x8
    have sx8 := t_sPkg (TPackage.mk x6_0 x6_1 x6_2 x6_3 x6_4 x6_5) g7
    rw [hx8] at sx8
    refine VY_co (sx8) ?_
    refine VY_l1t (T := 26) (TPackage.mk x8_0 x8_1 x8_2 x8_3 x8_4 x8_5) ?_
    obtain ⟨g9, h⟩ := gd_s h
    refine VY_ap (T := 26) g9 ?_
    refine goY ?_
    refine VY_nil ?_
    refine goL ?_
    refine VO_r (QR_inc y3 (by omega)) ?_
    refine goL ?_
    exact ⟨(y3 + 1), (y1 ++ [(TPackage.mk x8_0 x8_1 x8_2 x8_3 x8_4 x8_5)]), (v2 + 1), h, by omega, ⟨rfl, ⟨⟨rfl, rfl⟩, ⟨rfl, rfl⟩, ⟨rfl, rfl⟩, ⟨rfl, rfl⟩, trivial⟩, ⟨_, rfl⟩, rfl⟩⟩
  · have hky32 := kgeN c5
    rw [drop_end hky32, b_sProg_l1.eq_1] at h
    refine V_exit ?_
    show V _ _ _ _ _
    refine goL ?_
    refine V_ret ?_
    replace h := Option.some.inj h
    subst h
    exact R_rO
theorem sProg_l1_eq : ∀ (xs y : List TPackage), Ws (ePackages xs) ≤ 4294967296 → y.length + xs.length ≤ 4294967296 → b_sProg_l1  xs y = b_sProg_l1  [] (y ++ xs)
  | [], y, _, h => by rw [List.append_nil]
  | x :: xs, y, h, h2 => by
    obtain ⟨z0, z1, z2, z3, z4, z5⟩ := x
    simp only [ePackages, Ws, ePackage, W, eTypes_ln, eStrs_ln, eExprs_ln, eArms_ln, eBounds_ln, eSignatures_ln, eConstructors_ln, eMethods_ln, eParams_ln, eTraits_ln, eDataTypes_ln, eInstances_ln, eFunctions_ln, ePackages_ln] at h
    simp only [List.length_cons] at h2
    rw [b_sProg_l1.eq_2]
    simp only [lt_, idX]
    repeat rw [gd_eq (by first | omega | (simp only [ePackage, W, Ws, eTypes_ln, eStrs_ln, eExprs_ln, eArms_ln, eBounds_ln, eSignatures_ln, eConstructors_ln, eMethods_ln, eParams_ln, eTraits_ln, eDataTypes_ln, eInstances_ln, eFunctions_ln, ePackages_ln]; omega) | (simp only [List.length_nil, List.length_cons, List.length_set, List.length_append, Nat.zero_add, W, Ws, eTypes_ln, eStrs_ln, eExprs_ln, eArms_ln, eBounds_ln, eSignatures_ln, eConstructors_ln, eMethods_ln, eParams_ln, eTraits_ln, eDataTypes_ln, eInstances_ln, eFunctions_ln, ePackages_ln]; omega) | (simp; omega))]
    rw [sProg_l1_eq  xs _ (by omega) (by simp only [List.length_append, List.length_cons, List.length_nil]; omega)]
    simp only [List.append_assoc, List.cons_append, List.nil_append]
theorem sProg_eq (x : TProgram) (h : W (eProgram x) ≤ 4294967296) : b_sProg x = some (idX x) := by
  obtain ⟨z0⟩ := x
  simp only [eProgram, W, Ws, eTypes_ln, eStrs_ln, eExprs_ln, eArms_ln, eBounds_ln, eSignatures_ln, eConstructors_ln, eMethods_ln, eParams_ln, eTraits_ln, eDataTypes_ln, eInstances_ln, eFunctions_ln, ePackages_ln] at h
  unfold b_sProg
  simp only [lt_, idX]
  repeat rw [gd_eq (by first | omega | (simp only [W, Ws, eTypes_ln, eStrs_ln, eExprs_ln, eArms_ln, eBounds_ln, eSignatures_ln, eConstructors_ln, eMethods_ln, eParams_ln, eTraits_ln, eDataTypes_ln, eInstances_ln, eFunctions_ln, ePackages_ln]; omega) | (simp only [List.length_nil, List.length_cons, List.length_set, List.length_append, Nat.zero_add, W, Ws, eTypes_ln, eStrs_ln, eExprs_ln, eArms_ln, eBounds_ln, eSignatures_ln, eConstructors_ln, eMethods_ln, eParams_ln, eTraits_ln, eDataTypes_ln, eInstances_ln, eFunctions_ln, ePackages_ln]; omega) | (simp; omega))]
  rw [sProg_l1_eq  _ [] (by omega) (by simp only [List.length_nil]; omega)]
  rw [b_sProg_l1.eq_1]
  simp only [lt_, idX, List.take_zero, List.nil_append]
  repeat rw [gd_eq (by first | omega | (simp only [W, Ws, eTypes_ln, eStrs_ln, eExprs_ln, eArms_ln, eBounds_ln, eSignatures_ln, eConstructors_ln, eMethods_ln, eParams_ln, eTraits_ln, eDataTypes_ln, eInstances_ln, eFunctions_ln, ePackages_ln]; omega) | (simp only [List.length_nil, List.length_cons, List.length_set, List.length_append, Nat.zero_add, W, Ws, eTypes_ln, eStrs_ln, eExprs_ln, eArms_ln, eBounds_ln, eSignatures_ln, eConstructors_ln, eMethods_ln, eParams_ln, eTraits_ln, eDataTypes_ln, eInstances_ln, eFunctions_ln, ePackages_ln]; omega) | (simp; omega))]
  try rfl
theorem t_sProg (x : TProgram) (h : W (eProgram x) ≤ 4294967296) : SpecO Tryz.prog 26 [.d (eProgram x)] [128] [eProgram (idX x)] := w_sProg x (sProg_eq x h)
end Go.Proofs.YthojhakapbfbiaaGreat
