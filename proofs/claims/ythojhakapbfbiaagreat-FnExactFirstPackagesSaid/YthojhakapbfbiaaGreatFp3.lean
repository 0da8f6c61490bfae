/- Fp3. Written by a program of mine (aw.py). -/
import Derived.Test.YthojhakapbfbiaaGreatFacts
import Derived.Test.YthojhakapbfbiaaGreatFp2
set_option linter.unusedVariables false
set_option linter.unusedSimpArgs false
set_option linter.unusedSectionVars false
namespace Go.Proofs.YthojhakapbfbiaaGreat
open Go Go.Eng
attribute [local irreducible] V VO VQ VY Quiet QR SpecP SpecO MSpec Rng PostP PostO
def b_iBounds_l1 : List TBound → Nat → (List TBound) → Option (List TBound)
  | [], y4, y2 => (some y2)
  | x7 :: xs, y4, y2 => gd (W (eType x7.type_) ≤ 4294967296) (lt_ (idX x7.type_) fun x9 =>
gd (y4 < y2.length) (
b_iBounds_l1 xs (y4 + 1) (y2.set y4 (TBound.mk x7.trait x9))))
def b_iBounds (a0 : List TBound) : Option (List TBound) :=
gd (a0.length ≤ 4294967296) (
b_iBounds_l1 a0 0 (List.replicate a0.length (TBound.mk [] (TType.mk 0 [] []))))
set_option maxHeartbeats 4000000 in
theorem w_iBounds (a0 : List TBound) {r : List TBound} (h : b_iBounds a0 = some r) : SpecO Tryz.prog 173 [.d (.sl 4 (eBounds a0))] [180] [.sl 4 (eBounds r)] := by
  unfold b_iBounds at h
  refine SpecO_intro Tryz.func173 rfl (by kernel_rfl) rfl (by simp) fun A _ => ?_
  refine goL ?_
  obtain ⟨g1, h⟩ := gd_s h
  refine VO_mk (TBound.mk [] (TType.mk 0 [] [])) g1 ?_
  refine goL ?_
  refine V_block ?_
  show V _ _ _ _ _
  refine V_bd 9 (fun z5 => ?_)
  refine V_loop3 (fun (y4 : Nat) (y2 : List TBound) (v3 : Nat) => ⟨[(3, .sl 0 v3), (9, .d (.sl 4 (eBounds a0))), (10, .d (.i .i64 (a0.length : Int))), (11, .d (.i .i64 (y4 : Int)))], [.own 180 4 v3 (eBounds y2)], Tryz.f173.ntmps⟩) (fun y4 y2 v3 => b_iBounds_l1 (a0.drop y4) y4 y2 = some r) (fun y4 y2 v3 => a0.length - y4) 0 (List.replicate a0.length (TBound.mk [] (TType.mk 0 [] []))) 0 ⟨rfl, ⟨⟨rfl, rfl⟩, ⟨rfl, rfl⟩, ⟨rfl, rfl⟩, ⟨rfl, rfl⟩, trivial⟩, ⟨[], rfl⟩, rfl⟩ h ?_
  rintro y4 y2 v3 h
  refine goL ?_
  refine V_seq (V_cb (fun c6 => ?_) (fun c6 => ?_))
  · have hky42 := kltN c6
    obtain ⟨x7, hx7, hdx7⟩ := drop_at hky42
    rw [hdx7, b_iBounds_l1.eq_2] at h
    obtain ⟨x7_0, ⟨x7_1_0, x7_1_1, x7_1_2⟩⟩ := x7
    refine V_skip ?_
    show V _ _ _ _ _
    refine V_seq (V_block ?_)
    refine goL ?_
    refine VO_r (QR_ixn y4 (gBound hx7)) ?_
    refine goNL ?_
    refine V_drawX (P := Tryz.prog) Mix.h [(0, true), (1, true), (2, true), (3, true), (4, true), (5, true), (6, false), (7, true), (8, false), (9, false)] (by kernel_rfl) ?_
    refine goY ?_
    obtain ⟨g8, h⟩ := gd_s h
    obtain ⟨x9, hx9, h⟩ := lt_x h
    obtain ⟨x9_0, x9_1, x9_2⟩ := x9
    have sx9 := u_iCopyType (TType.mk x7_1_0 x7_1_1 x7_1_2) g8
    rw [hx9] at sx9
    refine VY_co (sx9) ?_
    refine goY ?_
    obtain ⟨g10, h⟩ := gd_s h
    refine VY_ixo y4 g10 ?_
    refine VY_st (TBound.mk x7_0 (TType.mk x9_0 x9_1 x9_2)) g10 ?_
    refine VY_nil ?_
    refine goL ?_
    refine VO_r (QR_inc y4 (by omega)) ?_
    refine goL ?_
    exact ⟨(y4 + 1), (y2.set y4 (TBound.mk x7_0 (TType.mk x9_0 x9_1 x9_2))), v3, h, by omega, ⟨rfl, ⟨⟨rfl, rfl⟩, ⟨rfl, rfl⟩, ⟨rfl, rfl⟩, ⟨rfl, rfl⟩, trivial⟩, ⟨_, rfl⟩, rfl⟩⟩
  · have hky42 := kgeN c6
    rw [drop_end hky42, b_iBounds_l1.eq_1] at h
    refine V_exit ?_
    show V _ _ _ _ _
    refine goL ?_
    refine V_ret ?_
    replace h := Option.some.inj h
    subst h
    exact R_rO
theorem iBounds_l1_eq : ∀ (xs : List TBound) (k : Nat) (y : List TBound), Ws (eBounds xs) ≤ 4294967296 → y.length = k + xs.length → b_iBounds_l1  xs k y = b_iBounds_l1  [] (k + xs.length) (y.take k ++ xs)
  | [], k, y, _, h => by
    rw [List.take_of_length_le (by simp at h; omega), List.append_nil]
    rfl
  | x :: xs, k, y, h, h2 => by
    obtain ⟨z0, z1⟩ := x
    simp only [eBounds, Ws, eBound, W, eTypes_ln, eStrs_ln, eExprs_ln, eArms_ln, eBounds_ln, eSignatures_ln, eConstructors_ln, eMethods_ln, eParams_ln, eTraits_ln, eDataTypes_ln, eInstances_ln, eFunctions_ln, ePackages_ln] at h
    simp only [List.length_cons] at h2
    rw [b_iBounds_l1.eq_2]
    simp only [lt_, idX]
    repeat rw [gd_eq (by first | omega | (simp only [eBound, W, Ws, eTypes_ln, eStrs_ln, eExprs_ln, eArms_ln, eBounds_ln, eSignatures_ln, eConstructors_ln, eMethods_ln, eParams_ln, eTraits_ln, eDataTypes_ln, eInstances_ln, eFunctions_ln, ePackages_ln]; omega) | (simp only [List.length_nil, List.length_cons, List.length_set, List.length_append, Nat.zero_add, W, Ws, eTypes_ln, eStrs_ln, eExprs_ln, eArms_ln, eBounds_ln, eSignatures_ln, eConstructors_ln, eMethods_ln, eParams_ln, eTraits_ln, eDataTypes_ln, eInstances_ln, eFunctions_ln, ePackages_ln]; omega) | (simp; omega))]
    rw [iBounds_l1_eq  xs (k + 1) _ (by omega) (by rw [List.length_set]; omega), take_set_succ (by omega)]
    have e : k + (xs.length + 1) = k + 1 + xs.length := by omega
    simp only [List.length_cons, e, List.append_assoc, List.cons_append, List.nil_append]
theorem iBounds_eq (x : List TBound) (h : W (.sl 4 (eBounds x)) ≤ 4294967296) : b_iBounds x = some (idX x) := by
  simp only [W, eTypes_ln, eStrs_ln, eExprs_ln, eArms_ln, eBounds_ln, eSignatures_ln, eConstructors_ln, eMethods_ln, eParams_ln, eTraits_ln, eDataTypes_ln, eInstances_ln, eFunctions_ln, ePackages_ln] at h
  unfold b_iBounds
  simp only [lt_, idX]
  repeat rw [gd_eq (by first | omega | (simp only [W, Ws, eTypes_ln, eStrs_ln, eExprs_ln, eArms_ln, eBounds_ln, eSignatures_ln, eConstructors_ln, eMethods_ln, eParams_ln, eTraits_ln, eDataTypes_ln, eInstances_ln, eFunctions_ln, ePackages_ln]; omega) | (simp only [List.length_nil, List.length_cons, List.length_set, List.length_append, Nat.zero_add, W, Ws, eTypes_ln, eStrs_ln, eExprs_ln, eArms_ln, eBounds_ln, eSignatures_ln, eConstructors_ln, eMethods_ln, eParams_ln, eTraits_ln, eDataTypes_ln, eInstances_ln, eFunctions_ln, ePackages_ln]; omega) | (simp; omega))]
  rw [iBounds_l1_eq  _ 0 _ (by omega) (by simp)]
  rw [b_iBounds_l1.eq_1]
  simp only [lt_, idX, List.take_zero, List.nil_append]
  repeat rw [gd_eq (by first | omega | (simp only [W, Ws, eTypes_ln, eStrs_ln, eExprs_ln, eArms_ln, eBounds_ln, eSignatures_ln, eConstructors_ln, eMethods_ln, eParams_ln, eTraits_ln, eDataTypes_ln, eInstances_ln, eFunctions_ln, ePackages_ln]; omega) | (simp only [List.length_nil, List.length_cons, List.length_set, List.length_append, Nat.zero_add, W, Ws, eTypes_ln, eStrs_ln, eExprs_ln, eArms_ln, eBounds_ln, eSignatures_ln, eConstructors_ln, eMethods_ln, eParams_ln, eTraits_ln, eDataTypes_ln, eInstances_ln, eFunctions_ln, ePackages_ln]; omega) | (simp; omega))]
  try rfl
theorem t_iBounds (x : List TBound) (h : W (.sl 4 (eBounds x)) ≤ 4294967296) : SpecO Tryz.prog 173 [.d (.sl 4 (eBounds x))] [180] [.sl 4 (eBounds (idX x))] := w_iBounds x (iBounds_eq x h)
def b_iTrait_l1 (a0 : TTrait) (x2 : List (List UInt8)) : List TSignature → Nat → (List TSignature) → Option (TTrait)
  | [], y6, y4 => (some (TTrait.mk a0.name x2 a0.auto a0.assoc y4))
  | x9 :: xs, y6, y4 => gd (W (.sl 3 (eTypes x9.params)) ≤ 4294967296) (lt_ (idX x9.params) fun x11 =>
gd (W (eType x9.result) ≤ 4294967296) (lt_ (idX x9.result) fun x13 =>
gd (W (.sl 1 (eStrs x9.vars)) ≤ 4294967296) (lt_ (idX x9.vars) fun x15 =>
gd (W (eExpr x9.body) ≤ 4294967296) (lt_ (idX x9.body) fun x17 =>
gd (y6 < y4.length) (
b_iTrait_l1 a0 x2 xs (y6 + 1) (y4.set y6 (TSignature.mk x9.name x11 x13 x9.hasDefault x15 x17)))))))
def b_iTrait (a0 : TTrait) : Option (TTrait) :=
gd (W (.sl 1 (eStrs a0.supertraits)) ≤ 4294967296) (lt_ (idX a0.supertraits) fun x2 =>
gd (a0.signatures.length ≤ 4294967296) (
b_iTrait_l1 a0 x2 a0.signatures 0 (List.replicate a0.signatures.length (TSignature.mk [] [] (TType.mk 0 [] []) false [] (TExpr.mk 0 [] [] 0 (TType.mk 0 [] []) [] [])))))
set_option maxHeartbeats 4000000 in
theorem w_iTrait (a0 : TTrait) {r : TTrait} (h : b_iTrait a0 = some r) : SpecO Tryz.prog 118 [.d (eTrait a0)] [9, 120] [eTrait r] := by
  obtain ⟨a0_0, a0_1, a0_2, a0_3, a0_4⟩ := a0
  unfold b_iTrait at h
  refine SpecO_intro Tryz.func118 rfl (by kernel_rfl) rfl (by simp) fun A _ => ?_
  refine goL ?_
  obtain ⟨g1, h⟩ := gd_s h
  obtain ⟨x2, hx2, h⟩ := lt_x h
  have sx2 := t_copyNames a0_1 g1
  rw [hx2] at sx2
  refine VO_co (sx2) ?_
  refine goL ?_
  obtain ⟨g3, h⟩ := gd_s h
  refine VO_mk (TSignature.mk [] [] (TType.mk 0 [] []) false [] (TExpr.mk 0 [] [] 0 (TType.mk 0 [] []) [] [])) g3 ?_
  refine goL ?_
  refine V_block ?_
  show V _ _ _ _ _
  refine V_bd 15 (fun z7 => ?_)
  refine V_loop3 (fun (y6 : Nat) (y4 : List TSignature) (v5 : Nat) => ⟨[(1, .ptr 0 0), (2, .ptr 1 0), (3, .sl 3 v5), (15, .d (.sl 16 (eSignatures a0_4))), (16, .d (.i .i64 (a0_4.length : Int))), (17, .d (.i .i64 (y6 : Int)))], [.box [.d (.s a0_0), .sl 2 0, .d (.b a0_2), .d (.b a0_3), .d (.sl 16 (eSignatures a0_4))], .box [.d (.s []), .nilsl, .d (.b false), .d (.b false), .nilsl], .own 9 1 0 (eStrs x2), .own 120 16 v5 (eSignatures y4)], Tryz.f118.ntmps⟩) (fun y6 y4 v5 => b_iTrait_l1 (TTrait.mk a0_0 a0_1 a0_2 a0_3 a0_4) x2 (a0_4.drop y6) y6 y4 = some r) (fun y6 y4 v5 => a0_4.length - y6) 0 (List.replicate a0_4.length (TSignature.mk [] [] (TType.mk 0 [] []) false [] (TExpr.mk 0 [] [] 0 (TType.mk 0 [] []) [] []))) 0 ⟨rfl, ⟨⟨rfl, rfl⟩, ⟨rfl, rfl⟩, ⟨rfl, rfl⟩, ⟨rfl, rfl⟩, ⟨rfl, rfl⟩, ⟨rfl, rfl⟩, trivial⟩, ⟨[], rfl⟩, rfl⟩ h ?_
  rintro y6 y4 v5 h
  refine goL ?_
  refine V_seq (V_cb (fun c8 => ?_) (fun c8 => ?_))
  · have hky62 := kltN c8
    obtain ⟨x9, hx9, hdx9⟩ := drop_at hky62
    rw [hdx9, b_iTrait_l1.eq_2] at h
    obtain ⟨x9_0, x9_1, ⟨x9_2_0, x9_2_1, x9_2_2⟩, x9_3, x9_4, ⟨x9_5_0, x9_5_1, x9_5_2, x9_5_3, ⟨x9_5_4_0, x9_5_4_1, x9_5_4_2⟩, x9_5_5, x9_5_6⟩⟩ := x9
    refine V_skip ?_
    show V _ _ _ _ _
    refine V_seq (V_block ?_)
    refine goL ?_
    refine VO_r (QR_ixn y6 (gSignature hx9)) ?_
    refine goL ?_
    obtain ⟨g10, h⟩ := gd_s h
    obtain ⟨x11, hx11, h⟩ := lt_x h
    have sx11 := u_iCopyTypes x9_1 g10
    rw [hx11] at sx11
    refine VO_co (sx11) ?_
    refine goL ?_
    obtain ⟨g12, h⟩ := gd_s h
    obtain ⟨x13, hx13, h⟩ := lt_x h
    obtain ⟨x13_0, x13_1, x13_2⟩ := x13
    have sx13 := u_iCopyType (TType.mk x9_2_0 x9_2_1 x9_2_2) g12
    rw [hx13] at sx13
    refine VO_co (sx13) ?_
    refine goL ?_
    obtain ⟨g14, h⟩ := gd_s h
    obtain ⟨x15, hx15, h⟩ := lt_x h
    have sx15 := t_copyNames x9_4 g14
    rw [hx15] at sx15
    refine VO_co (sx15) ?_
    refine goL ?_
    obtain ⟨g16, h⟩ := gd_s h
    obtain ⟨x17, hx17, h⟩ := lt_x h
    obtain ⟨x17_0, x17_1, x17_2, x17_3, ⟨x17_4_0, x17_4_1, x17_4_2⟩, x17_5, x17_6⟩ := x17
    have sx17 := u_iCopyEx (TExpr.mk x9_5_0 x9_5_1 x9_5_2 x9_5_3 (TType.mk x9_5_4_0 x9_5_4_1 x9_5_4_2) x9_5_5 x9_5_6) g16
    rw [hx17] at sx17
    refine VO_co (sx17) ?_
    refine goL ?_
    obtain ⟨g18, h⟩ := gd_s h
    refine VO_k (Q_ixo y6 g18) ?_
    refine VO_st (TSignature.mk x9_0 x11 (TType.mk x13_0 x13_1 x13_2) x9_3 x15 (TExpr.mk x17_0 x17_1 x17_2 x17_3 (TType.mk x17_4_0 x17_4_1 x17_4_2) x17_5 x17_6)) g18 ?_
    refine goL ?_
    refine VO_r (QR_inc y6 (by omega)) ?_
    refine goL ?_
    exact ⟨(y6 + 1), (y4.set y6 (TSignature.mk x9_0 x11 (TType.mk x13_0 x13_1 x13_2) x9_3 x15 (TExpr.mk x17_0 x17_1 x17_2 x17_3 (TType.mk x17_4_0 x17_4_1 x17_4_2) x17_5 x17_6))), v5, h, by omega, ⟨rfl, ⟨⟨rfl, rfl⟩, ⟨rfl, rfl⟩, ⟨rfl, rfl⟩, ⟨rfl, rfl⟩, ⟨rfl, rfl⟩, ⟨rfl, rfl⟩, trivial⟩, ⟨_, rfl⟩, rfl⟩⟩
  · have hky62 := kgeN c8
    rw [drop_end hky62, b_iTrait_l1.eq_1] at h
    refine V_exit ?_
    show V _ _ _ _ _
    refine goL ?_
    refine V_ret ?_
    replace h := Option.some.inj h
    subst h
    exact R_rO
theorem iTrait_l1_eq (a0 : TTrait) (x2 : List (List UInt8)) : ∀ (xs : List TSignature) (k : Nat) (y : List TSignature), Ws (eSignatures xs) ≤ 4294967296 → y.length = k + xs.length → b_iTrait_l1 a0 x2 xs k y = b_iTrait_l1 a0 x2 [] (k + xs.length) (y.take k ++ xs)
  | [], k, y, _, h => by
    rw [List.take_of_length_le (by simp at h; omega), List.append_nil]
    rfl
  | x :: xs, k, y, h, h2 => by
    obtain ⟨z0, z1, z2, z3, z4, z5⟩ := x
    simp only [eSignatures, Ws, eSignature, W, eTypes_ln, eStrs_ln, eExprs_ln, eArms_ln, eBounds_ln, eSignatures_ln, eConstructors_ln, eMethods_ln, eParams_ln, eTraits_ln, eDataTypes_ln, eInstances_ln, eFunctions_ln, ePackages_ln] at h
    simp only [List.length_cons] at h2
    rw [b_iTrait_l1.eq_2]
    simp only [lt_, idX]
    repeat rw [gd_eq (by first | omega | (simp only [eSignature, W, Ws, eTypes_ln, eStrs_ln, eExprs_ln, eArms_ln, eBounds_ln, eSignatures_ln, eConstructors_ln, eMethods_ln, eParams_ln, eTraits_ln, eDataTypes_ln, eInstances_ln, eFunctions_ln, ePackages_ln]; omega) | (simp only [List.length_nil, List.length_cons, List.length_set, List.length_append, Nat.zero_add, W, Ws, eTypes_ln, eStrs_ln, eExprs_ln, eArms_ln, eBounds_ln, eSignatures_ln, eConstructors_ln, eMethods_ln, eParams_ln, eTraits_ln, eDataTypes_ln, eInstances_ln, eFunctions_ln, ePackages_ln]; omega) | (simp; omega))]
    rw [iTrait_l1_eq a0 x2 xs (k + 1) _ (by omega) (by rw [List.length_set]; omega), take_set_succ (by omega)]
    have e : k + (xs.length + 1) = k + 1 + xs.length := by omega
    simp only [List.length_cons, e, List.append_assoc, List.cons_append, List.nil_append]
theorem iTrait_eq (x : TTrait) (h : W (eTrait x) ≤ 4294967296) : b_iTrait x = some (idX x) := by
  obtain ⟨z0, z1, z2, z3, z4⟩ := x
  simp only [eTrait, W, Ws, eTypes_ln, eStrs_ln, eExprs_ln, eArms_ln, eBounds_ln, eSignatures_ln, eConstructors_ln, eMethods_ln, eParams_ln, eTraits_ln, eDataTypes_ln, eInstances_ln, eFunctions_ln, ePackages_ln] at h
  unfold b_iTrait
  simp only [lt_, idX]
  repeat rw [gd_eq (by first | omega | (simp only [W, Ws, eTypes_ln, eStrs_ln, eExprs_ln, eArms_ln, eBounds_ln, eSignatures_ln, eConstructors_ln, eMethods_ln, eParams_ln, eTraits_ln, eDataTypes_ln, eInstances_ln, eFunctions_ln, ePackages_ln]; omega) | (simp only [List.length_nil, List.length_cons, List.length_set, List.length_append, Nat.zero_add, W, Ws, eTypes_ln, eStrs_ln, eExprs_ln, eArms_ln, eBounds_ln, eSignatures_ln, eConstructors_ln, eMethods_ln, eParams_ln, eTraits_ln, eDataTypes_ln, eInstances_ln, eFunctions_ln, ePackages_ln]; omega) | (simp; omega))]
  rw [iTrait_l1_eq _ _ _ 0 _ (by omega) (by simp)]
  rw [b_iTrait_l1.eq_1]
  simp only [lt_, idX, List.take_zero, List.nil_append]
  repeat rw [gd_eq (by first | omega | (simp only [W, Ws, eTypes_ln, eStrs_ln, eExprs_ln, eArms_ln, eBounds_ln, eSignatures_ln, eConstructors_ln, eMethods_ln, eParams_ln, eTraits_ln, eDataTypes_ln, eInstances_ln, eFunctions_ln, ePackages_ln]; omega) | (simp only [List.length_nil, List.length_cons, List.length_set, List.length_append, Nat.zero_add, W, Ws, eTypes_ln, eStrs_ln, eExprs_ln, eArms_ln, eBounds_ln, eSignatures_ln, eConstructors_ln, eMethods_ln, eParams_ln, eTraits_ln, eDataTypes_ln, eInstances_ln, eFunctions_ln, ePackages_ln]; omega) | (simp; omega))]
  try rfl
theorem t_iTrait (x : TTrait) (h : W (eTrait x) ≤ 4294967296) : SpecO Tryz.prog 118 [.d (eTrait x)] [9, 120] [eTrait (idX x)] := w_iTrait x (iTrait_eq x h)
def b_iData_l1 (a0 : TDataType) (x2 : List (List UInt8)) : List TConstructor → Nat → (List TConstructor) → Option (TDataType)
  | [], y6, y4 => (some (TDataType.mk a0.name x2 y4))
  | x9 :: xs, y6, y4 => gd (W (.sl 3 (eTypes x9.fields)) ≤ 4294967296) (lt_ (idX x9.fields) fun x11 =>
gd (y6 < y4.length) (
b_iData_l1 a0 x2 xs (y6 + 1) (y4.set y6 (TConstructor.mk x9.name x11))))
def b_iData (a0 : TDataType) : Option (TDataType) :=
gd (W (.sl 1 (eStrs a0.vars)) ≤ 4294967296) (lt_ (idX a0.vars) fun x2 =>
gd (a0.constructors.length ≤ 4294967296) (
b_iData_l1 a0 x2 a0.constructors 0 (List.replicate a0.constructors.length (TConstructor.mk [] []))))
set_option maxHeartbeats 4000000 in
theorem w_iData (a0 : TDataType) {r : TDataType} (h : b_iData a0 = some r) : SpecO Tryz.prog 119 [.d (eDataType a0)] [9, 257] [eDataType r] := by
  obtain ⟨a0_0, a0_1, a0_2⟩ := a0
  unfold b_iData at h
  refine SpecO_intro Tryz.func119 rfl (by kernel_rfl) rfl (by simp) fun A _ => ?_
  refine goL ?_
  obtain ⟨g1, h⟩ := gd_s h
  obtain ⟨x2, hx2, h⟩ := lt_x h
  have sx2 := t_copyNames a0_1 g1
  rw [hx2] at sx2
  refine VO_co (sx2) ?_
  refine goL ?_
  obtain ⟨g3, h⟩ := gd_s h
  refine VO_mk (TConstructor.mk [] []) g3 ?_
  refine goL ?_
  refine V_block ?_
  show V _ _ _ _ _
  refine V_bd 15 (fun z7 => ?_)
  refine V_loop3 (fun (y6 : Nat) (y4 : List TConstructor) (v5 : Nat) => ⟨[(1, .ptr 0 0), (2, .ptr 1 0), (3, .sl 3 v5), (15, .d (.sl 2 (eConstructors a0_2))), (16, .d (.i .i64 (a0_2.length : Int))), (17, .d (.i .i64 (y6 : Int)))], [.box [.d (.s a0_0), .sl 2 0, .d (.sl 2 (eConstructors a0_2))], .box [.d (.s []), .nilsl, .nilsl], .own 9 1 0 (eStrs x2), .own 257 2 v5 (eConstructors y4)], Tryz.f119.ntmps⟩) (fun y6 y4 v5 => b_iData_l1 (TDataType.mk a0_0 a0_1 a0_2) x2 (a0_2.drop y6) y6 y4 = some r) (fun y6 y4 v5 => a0_2.length - y6) 0 (List.replicate a0_2.length (TConstructor.mk [] [])) 0 ⟨rfl, ⟨⟨rfl, rfl⟩, ⟨rfl, rfl⟩, ⟨rfl, rfl⟩, ⟨rfl, rfl⟩, ⟨rfl, rfl⟩, ⟨rfl, rfl⟩, trivial⟩, ⟨[], rfl⟩, rfl⟩ h ?_
  rintro y6 y4 v5 h
  refine goL ?_
  refine V_seq (V_cb (fun c8 => ?_) (fun c8 => ?_))
  · have hky62 := kltN c8
    obtain ⟨x9, hx9, hdx9⟩ := drop_at hky62
    rw [hdx9, b_iData_l1.eq_2] at h
    obtain ⟨x9_0, x9_1⟩ := x9
    refine V_skip ?_
    show V _ _ _ _ _
    refine V_seq (V_block ?_)
    refine goL ?_
    refine VO_r (QR_ixn y6 (gConstructor hx9)) ?_
    refine goNL ?_
    refine V_drawX (P := Tryz.prog) Mix.h [(0, true), (1, true), (2, true), (3, true), (4, true), (5, true), (6, false), (7, true), (8, false), (9, false)] (by kernel_rfl) ?_
    refine goY ?_
    obtain ⟨g10, h⟩ := gd_s h
    obtain ⟨x11, hx11, h⟩ := lt_x h
    have sx11 := u_iCopyTypes x9_1 g10
    rw [hx11] at sx11
    refine VY_co (sx11) ?_
    refine goY ?_
    obtain ⟨g12, h⟩ := gd_s h
    refine VY_ixo y6 g12 ?_
    refine VY_st (TConstructor.mk x9_0 x11) g12 ?_
    refine VY_nil ?_
    refine goL ?_
    refine VO_r (QR_inc y6 (by omega)) ?_
    refine goL ?_
    exact ⟨(y6 + 1), (y4.set y6 (TConstructor.mk x9_0 x11)), v5, h, by omega, ⟨rfl, ⟨⟨rfl, rfl⟩, ⟨rfl, rfl⟩, ⟨rfl, rfl⟩, ⟨rfl, rfl⟩, ⟨rfl, rfl⟩, ⟨rfl, rfl⟩, trivial⟩, ⟨_, rfl⟩, rfl⟩⟩
  · have hky62 := kgeN c8
    rw [drop_end hky62, b_iData_l1.eq_1] at h
    refine V_exit ?_
    show V _ _ _ _ _
    refine goL ?_
    refine V_ret ?_
    replace h := Option.some.inj h
    subst h
    exact R_rO
theorem iData_l1_eq (a0 : TDataType) (x2 : List (List UInt8)) : ∀ (xs : List TConstructor) (k : Nat) (y : List TConstructor), Ws (eConstructors xs) ≤ 4294967296 → y.length = k + xs.length → b_iData_l1 a0 x2 xs k y = b_iData_l1 a0 x2 [] (k + xs.length) (y.take k ++ xs)
  | [], k, y, _, h => by
    rw [List.take_of_length_le (by simp at h; omega), List.append_nil]
    rfl
  | x :: xs, k, y, h, h2 => by
    obtain ⟨z0, z1⟩ := x
    simp only [eConstructors, Ws, eConstructor, W, eTypes_ln, eStrs_ln, eExprs_ln, eArms_ln, eBounds_ln, eSignatures_ln, eConstructors_ln, eMethods_ln, eParams_ln, eTraits_ln, eDataTypes_ln, eInstances_ln, eFunctions_ln, ePackages_ln] at h
    simp only [List.length_cons] at h2
    rw [b_iData_l1.eq_2]
    simp only [lt_, idX]
    repeat rw [gd_eq (by first | omega | (simp only [eConstructor, W, Ws, eTypes_ln, eStrs_ln, eExprs_ln, eArms_ln, eBounds_ln, eSignatures_ln, eConstructors_ln, eMethods_ln, eParams_ln, eTraits_ln, eDataTypes_ln, eInstances_ln, eFunctions_ln, ePackages_ln]; omega) | (simp only [List.length_nil, List.length_cons, List.length_set, List.length_append, Nat.zero_add, W, Ws, eTypes_ln, eStrs_ln, eExprs_ln, eArms_ln, eBounds_ln, eSignatures_ln, eConstructors_ln, eMethods_ln, eParams_ln, eTraits_ln, eDataTypes_ln, eInstances_ln, eFunctions_ln, ePackages_ln]; omega) | (simp; omega))]
    rw [iData_l1_eq a0 x2 xs (k + 1) _ (by omega) (by rw [List.length_set]; omega), take_set_succ (by omega)]
    have e : k + (xs.length + 1) = k + 1 + xs.length := by omega
    simp only [List.length_cons, e, List.append_assoc, List.cons_append, List.nil_append]
theorem iData_eq (x : TDataType) (h : W (eDataType x) ≤ 4294967296) : b_iData x = some (idX x) := by
  obtain ⟨z0, z1, z2⟩ := x
  simp only [eDataType, W, Ws, eTypes_ln, eStrs_ln, eExprs_ln, eArms_ln, eBounds_ln, eSignatures_ln, eConstructors_ln, eMethods_ln, eParams_ln, eTraits_ln, eDataTypes_ln, eInstances_ln, eFunctions_ln, ePackages_ln] at h
  unfold b_iData
  simp only [lt_, idX]
  repeat rw [gd_eq (by first | omega | (simp only [W, Ws, eTypes_ln, eStrs_ln, eExprs_ln, eArms_ln, eBounds_ln, eSignatures_ln, eConstructors_ln, eMethods_ln, eParams_ln, eTraits_ln, eDataTypes_ln, eInstances_ln, eFunctions_ln, ePackages_ln]; omega) | (simp only [List.length_nil, List.length_cons, List.length_set, List.length_append, Nat.zero_add, W, Ws, eTypes_ln, eStrs_ln, eExprs_ln, eArms_ln, eBounds_ln, eSignatures_ln, eConstructors_ln, eMethods_ln, eParams_ln, eTraits_ln, eDataTypes_ln, eInstances_ln, eFunctions_ln, ePackages_ln]; omega) | (simp; omega))]
  rw [iData_l1_eq _ _ _ 0 _ (by omega) (by simp)]
  rw [b_iData_l1.eq_1]
  simp only [lt_, idX, List.take_zero, List.nil_append]
  repeat rw [gd_eq (by first | omega | (simp only [W, Ws, eTypes_ln, eStrs_ln, eExprs_ln, eArms_ln, eBounds_ln, eSignatures_ln, eConstructors_ln, eMethods_ln, eParams_ln, eTraits_ln, eDataTypes_ln, eInstances_ln, eFunctions_ln, ePackages_ln]; omega) | (simp only [List.length_nil, List.length_cons, List.length_set, List.length_append, Nat.zero_add, W, Ws, eTypes_ln, eStrs_ln, eExprs_ln, eArms_ln, eBounds_ln, eSignatures_ln, eConstructors_ln, eMethods_ln, eParams_ln, eTraits_ln, eDataTypes_ln, eInstances_ln, eFunctions_ln, ePackages_ln]; omega) | (simp; omega))]
  try rfl
theorem t_iData (x : TDataType) (h : W (eDataType x) ≤ 4294967296) : SpecO Tryz.prog 119 [.d (eDataType x)] [9, 257] [eDataType (idX x)] := w_iData x (iData_eq x h)
def b_iInst_l1 (a0 : TInstance) (x2 : List (List UInt8)) (x4 : TType) (x6 : List TBound) (x8 : TType) : List TMethod → Nat → (List TMethod) → Option (TInstance)
  | [], y12, y10 => (some (TInstance.mk a0.trait x2 x4 x6 a0.default_ a0.hasAssoc x8 y10))
  | x15 :: xs, y12, y10 => gd (W (.sl 1 (eStrs x15.vars)) ≤ 4294967296) (lt_ (idX x15.vars) fun x17 =>
gd (W (eExpr x15.body) ≤ 4294967296) (lt_ (idX x15.body) fun x19 =>
gd (y12 < y10.length) (
b_iInst_l1 a0 x2 x4 x6 x8 xs (y12 + 1) (y10.set y12 (TMethod.mk x15.name x17 x19)))))
def b_iInst (a0 : TInstance) : Option (TInstance) :=
gd (W (.sl 1 (eStrs a0.vars)) ≤ 4294967296) (lt_ (idX a0.vars) fun x2 =>
gd (W (eType a0.head) ≤ 4294967296) (lt_ (idX a0.head) fun x4 =>
gd (W (.sl 4 (eBounds a0.where_)) ≤ 4294967296) (lt_ (idX a0.where_) fun x6 =>
gd (W (eType a0.assoc) ≤ 4294967296) (lt_ (idX a0.assoc) fun x8 =>
gd (a0.methods.length ≤ 4294967296) (
b_iInst_l1 a0 x2 x4 x6 x8 a0.methods 0 (List.replicate a0.methods.length (TMethod.mk [] [] (TExpr.mk 0 [] [] 0 (TType.mk 0 [] []) [] []))))))))
set_option maxHeartbeats 4000000 in
theorem w_iInst (a0 : TInstance) {r : TInstance} (h : b_iInst a0 = some r) : SpecO Tryz.prog 120 [.d (eInstance a0)] [9, 84, 180, 84, 160] [eInstance r] := by
  obtain ⟨a0_0, a0_1, ⟨a0_2_0, a0_2_1, a0_2_2⟩, a0_3, a0_4, a0_5, ⟨a0_6_0, a0_6_1, a0_6_2⟩, a0_7⟩ := a0
  unfold b_iInst at h
  refine SpecO_intro Tryz.func120 rfl (by kernel_rfl) rfl (by simp) fun A _ => ?_
  refine goL ?_
  obtain ⟨g1, h⟩ := gd_s h
  obtain ⟨x2, hx2, h⟩ := lt_x h
  have sx2 := t_copyNames a0_1 g1
  rw [hx2] at sx2
  refine VO_co (sx2) ?_
  refine goL ?_
  obtain ⟨g3, h⟩ := gd_s h
  obtain ⟨x4, hx4, h⟩ := lt_x h
  obtain ⟨x4_0, x4_1, x4_2⟩ := x4
  have sx4 := u_iCopyType (TType.mk a0_2_0 a0_2_1 a0_2_2) g3
  rw [hx4] at sx4
  refine VO_co (sx4) ?_
  refine goL ?_
  obtain ⟨g5, h⟩ := gd_s h
  obtain ⟨x6, hx6, h⟩ := lt_x h
  have sx6 := t_iBounds a0_3 g5
  rw [hx6] at sx6
  refine VO_co (sx6) ?_
  refine goL ?_
  obtain ⟨g7, h⟩ := gd_s h
  obtain ⟨x8, hx8, h⟩ := lt_x h
  obtain ⟨x8_0, x8_1, x8_2⟩ := x8
  have sx8 := u_iCopyType (TType.mk a0_6_0 a0_6_1 a0_6_2) g7
  rw [hx8] at sx8
  refine VO_co (sx8) ?_
  refine goL ?_
  obtain ⟨g9, h⟩ := gd_s h
  refine VO_mk (TMethod.mk [] [] (TExpr.mk 0 [] [] 0 (TType.mk 0 [] []) [] [])) g9 ?_
  refine goL ?_
  refine V_block ?_
  show V _ _ _ _ _
  refine V_bd 27 (fun z13 => ?_)
  refine V_loop3 (fun (y12 : Nat) (y10 : List TMethod) (v11 : Nat) => ⟨[(1, .ptr 0 0), (2, .ptr 1 0), (3, .sl 6 v11), (27, .d (.sl 11 (eMethods a0_7))), (28, .d (.i .i64 (a0_7.length : Int))), (29, .d (.i .i64 (y12 : Int)))], [.box [.d (.s a0_0), .sl 2 0, .d (.i .i64 x4_0), .d (.s x4_1), .sl 3 0, .sl 4 0, .d (.b a0_4), .d (.b a0_5), .d (.i .i64 x8_0), .d (.s x8_1), .sl 5 0, .d (.sl 11 (eMethods a0_7))], .box [.d (.s []), .nilsl, .d (.i .i64 0), .d (.s []), .nilsl, .nilsl, .d (.b false), .d (.b false), .d (.i .i64 0), .d (.s []), .nilsl, .nilsl], .own 9 1 0 (eStrs x2), .own 84 3 0 (eTypes x4_2), .own 180 4 0 (eBounds x6), .own 84 3 0 (eTypes x8_2), .own 160 11 v11 (eMethods y10)], Tryz.f120.ntmps⟩) (fun y12 y10 v11 => b_iInst_l1 (TInstance.mk a0_0 a0_1 (TType.mk a0_2_0 a0_2_1 a0_2_2) a0_3 a0_4 a0_5 (TType.mk a0_6_0 a0_6_1 a0_6_2) a0_7) x2 (TType.mk x4_0 x4_1 x4_2) x6 (TType.mk x8_0 x8_1 x8_2) (a0_7.drop y12) y12 y10 = some r) (fun y12 y10 v11 => a0_7.length - y12) 0 (List.replicate a0_7.length (TMethod.mk [] [] (TExpr.mk 0 [] [] 0 (TType.mk 0 [] []) [] []))) 0 ⟨rfl, ⟨⟨rfl, rfl⟩, ⟨rfl, rfl⟩, ⟨rfl, rfl⟩, ⟨rfl, rfl⟩, ⟨rfl, rfl⟩, ⟨rfl, rfl⟩, trivial⟩, ⟨[], rfl⟩, rfl⟩ h ?_
  rintro y12 y10 v11 h
  refine goL ?_
  refine V_seq (V_cb (fun c14 => ?_) (fun c14 => ?_))
  · have hky122 := kltN c14
    obtain ⟨x15, hx15, hdx15⟩ := drop_at hky122
    rw [hdx15, b_iInst_l1.eq_2] at h
    obtain ⟨x15_0, x15_1, ⟨x15_2_0, x15_2_1, x15_2_2, x15_2_3, ⟨x15_2_4_0, x15_2_4_1, x15_2_4_2⟩, x15_2_5, x15_2_6⟩⟩ := x15
    refine V_skip ?_
    show V _ _ _ _ _
    refine V_seq (V_block ?_)
    refine goL ?_
    refine VO_r (QR_ixn y12 (gMethod hx15)) ?_
    refine goNL ?_
    refine V_drawX (P := Tryz.prog) Mix.h [(0, true), (1, true), (2, true), (3, true), (4, true), (5, true), (7, true), (8, true), (6, false), (9, false), (10, true), (11, false), (12, false)] (by kernel_rfl) ?_
    refine goY ?_
    obtain ⟨g16, h⟩ := gd_s h
    obtain ⟨x17, hx17, h⟩ := lt_x h
    have sx17 := t_copyNames x15_1 g16
    rw [hx17] at sx17
    refine VY_co (sx17) ?_
    obtain ⟨g18, h⟩ := gd_s h
    obtain ⟨x19, hx19, h⟩ := lt_x h
    obtain ⟨x19_0, x19_1, x19_2, x19_3, ⟨x19_4_0, x19_4_1, x19_4_2⟩, x19_5, x19_6⟩ := x19
    have sx19 := u_iCopyEx (TExpr.mk x15_2_0 x15_2_1 x15_2_2 x15_2_3 (TType.mk x15_2_4_0 x15_2_4_1 x15_2_4_2) x15_2_5 x15_2_6) g18
    rw [hx19] at sx19
    refine VY_co (sx19) ?_
    refine goY ?_
    obtain ⟨g20, h⟩ := gd_s h
    refine VY_ixo y12 g20 ?_
    refine VY_st (TMethod.mk x15_0 x17 (TExpr.mk x19_0 x19_1 x19_2 x19_3 (TType.mk x19_4_0 x19_4_1 x19_4_2) x19_5 x19_6)) g20 ?_
    refine VY_nil ?_
    refine goL ?_
    refine VO_r (QR_inc y12 (by omega)) ?_
    refine goL ?_
    exact ⟨(y12 + 1), (y10.set y12 (TMethod.mk x15_0 x17 (TExpr.mk x19_0 x19_1 x19_2 x19_3 (TType.mk x19_4_0 x19_4_1 x19_4_2) x19_5 x19_6))), v11, h, by omega, ⟨rfl, ⟨⟨rfl, rfl⟩, ⟨rfl, rfl⟩, ⟨rfl, rfl⟩, ⟨rfl, rfl⟩, ⟨rfl, rfl⟩, ⟨rfl, rfl⟩, trivial⟩, ⟨_, rfl⟩, rfl⟩⟩
  · have hky122 := kgeN c14
    rw [drop_end hky122, b_iInst_l1.eq_1] at h
    refine V_exit ?_
    show V _ _ _ _ _
    refine goL ?_
    refine V_ret ?_
    replace h := Option.some.inj h
    subst h
    exact R_rO
theorem iInst_l1_eq (a0 : TInstance) (x2 : List (List UInt8)) (x4 : TType) (x6 : List TBound) (x8 : TType) : ∀ (xs : List TMethod) (k : Nat) (y : List TMethod), Ws (eMethods xs) ≤ 4294967296 → y.length = k + xs.length → b_iInst_l1 a0 x2 x4 x6 x8 xs k y = b_iInst_l1 a0 x2 x4 x6 x8 [] (k + xs.length) (y.take k ++ xs)
  | [], k, y, _, h => by
    rw [List.take_of_length_le (by simp at h; omega), List.append_nil]
    rfl
  | x :: xs, k, y, h, h2 => by
    obtain ⟨z0, z1, z2⟩ := x
    simp only [eMethods, Ws, eMethod, W, eTypes_ln, eStrs_ln, eExprs_ln, eArms_ln, eBounds_ln, eSignatures_ln, eConstructors_ln, eMethods_ln, eParams_ln, eTraits_ln, eDataTypes_ln, eInstances_ln, eFunctions_ln, ePackages_ln] at h
    simp only [List.length_cons] at h2
    rw [b_iInst_l1.eq_2]
    simp only [lt_, idX]
    repeat rw [gd_eq (by first | omega | (simp only [eMethod, W, Ws, eTypes_ln, eStrs_ln, eExprs_ln, eArms_ln, eBounds_ln, eSignatures_ln, eConstructors_ln, eMethods_ln, eParams_ln, eTraits_ln, eDataTypes_ln, eInstances_ln, eFunctions_ln, ePackages_ln]; omega) | (simp only [List.length_nil, List.length_cons, List.length_set, List.length_append, Nat.zero_add, W, Ws, eTypes_ln, eStrs_ln, eExprs_ln, eArms_ln, eBounds_ln, eSignatures_ln, eConstructors_ln, eMethods_ln, eParams_ln, eTraits_ln, eDataTypes_ln, eInstances_ln, eFunctions_ln, ePackages_ln]; omega) | (simp; omega))]
    rw [iInst_l1_eq a0 x2 x4 x6 x8 xs (k + 1) _ (by omega) (by rw [List.length_set]; omega), take_set_succ (by omega)]
    have e : k + (xs.length + 1) = k + 1 + xs.length := by omega
    simp only [List.length_cons, e, List.append_assoc, List.cons_append, List.nil_append]
theorem iInst_eq (x : TInstance) (h : W (eInstance x) ≤ 4294967296) : b_iInst x = some (idX x) := by
  obtain ⟨z0, z1, z2, z3, z4, z5, z6, z7⟩ := x
  simp only [eInstance, W, Ws, eTypes_ln, eStrs_ln, eExprs_ln, eArms_ln, eBounds_ln, eSignatures_ln, eConstructors_ln, eMethods_ln, eParams_ln, eTraits_ln, eDataTypes_ln, eInstances_ln, eFunctions_ln, ePackages_ln] at h
  unfold b_iInst
  simp only [lt_, idX]
  repeat rw [gd_eq (by first | omega | (simp only [W, Ws, eTypes_ln, eStrs_ln, eExprs_ln, eArms_ln, eBounds_ln, eSignatures_ln, eConstructors_ln, eMethods_ln, eParams_ln, eTraits_ln, eDataTypes_ln, eInstances_ln, eFunctions_ln, ePackages_ln]; omega) | (simp only [List.length_nil, List.length_cons, List.length_set, List.length_append, Nat.zero_add, W, Ws, eTypes_ln, eStrs_ln, eExprs_ln, eArms_ln, eBounds_ln, eSignatures_ln, eConstructors_ln, eMethods_ln, eParams_ln, eTraits_ln, eDataTypes_ln, eInstances_ln, eFunctions_ln, ePackages_ln]; omega) | (simp; omega))]
  rw [iInst_l1_eq _ _ _ _ _ _ 0 _ (by omega) (by simp)]
  rw [b_iInst_l1.eq_1]
  simp only [lt_, idX, List.take_zero, List.nil_append]
  repeat rw [gd_eq (by first | omega | (simp only [W, Ws, eTypes_ln, eStrs_ln, eExprs_ln, eArms_ln, eBounds_ln, eSignatures_ln, eConstructors_ln, eMethods_ln, eParams_ln, eTraits_ln, eDataTypes_ln, eInstances_ln, eFunctions_ln, ePackages_ln]; omega) | (simp only [List.length_nil, List.length_cons, List.length_set, List.length_append, Nat.zero_add, W, Ws, eTypes_ln, eStrs_ln, eExprs_ln, eArms_ln, eBounds_ln, eSignatures_ln, eConstructors_ln, eMethods_ln, eParams_ln, eTraits_ln, eDataTypes_ln, eInstances_ln, eFunctions_ln, ePackages_ln]; omega) | (simp; omega))]
  try rfl
theorem t_iInst (x : TInstance) (h : W (eInstance x) ≤ 4294967296) : SpecO Tryz.prog 120 [.d (eInstance x)] [9, 84, 180, 84, 160] [eInstance (idX x)] := w_iInst x (iInst_eq x h)
def b_iFn_l1 (a0 : TFunction) (x2 : List (List UInt8)) (x4 : List TBound) : List TParam → Nat → (List TParam) → Option (TFunction)
  | [], y8, y6 => gd (W (eType a0.result) ≤ 4294967296) (lt_ (idX a0.result) fun x16 =>
gd (W (eExpr a0.body) ≤ 4294967296) (lt_ (idX a0.body) fun x18 =>
(some (TFunction.mk a0.name x2 x4 y6 x16 x18))))
  | x11 :: xs, y8, y6 => gd (W (eType x11.type_) ≤ 4294967296) (lt_ (idX x11.type_) fun x13 =>
gd (y8 < y6.length) (
b_iFn_l1 a0 x2 x4 xs (y8 + 1) (y6.set y8 (TParam.mk x11.name x13))))
def b_iFn (a0 : TFunction) : Option (TFunction) :=
gd (W (.sl 1 (eStrs a0.vars)) ≤ 4294967296) (lt_ (idX a0.vars) fun x2 =>
gd (W (.sl 4 (eBounds a0.where_)) ≤ 4294967296) (lt_ (idX a0.where_) fun x4 =>
gd (a0.params.length ≤ 4294967296) (
b_iFn_l1 a0 x2 x4 a0.params 0 (List.replicate a0.params.length (TParam.mk [] (TType.mk 0 [] []))))))
set_option maxHeartbeats 4000000 in
theorem w_iFn (a0 : TFunction) {r : TFunction} (h : b_iFn a0 = some r) : SpecO Tryz.prog 121 [.d (eFunction a0)] [9, 180, 182, 84, 84, 118, 271] [eFunction r] := by
  obtain ⟨a0_0, a0_1, a0_2, a0_3, ⟨a0_4_0, a0_4_1, a0_4_2⟩, ⟨a0_5_0, a0_5_1, a0_5_2, a0_5_3, ⟨a0_5_4_0, a0_5_4_1, a0_5_4_2⟩, a0_5_5, a0_5_6⟩⟩ := a0
  unfold b_iFn at h
  refine SpecO_intro Tryz.func121 rfl (by kernel_rfl) rfl (by simp) fun A _ => ?_
  refine goL ?_
  obtain ⟨g1, h⟩ := gd_s h
  obtain ⟨x2, hx2, h⟩ := lt_x h
  have sx2 := t_copyNames a0_1 g1
  rw [hx2] at sx2
  refine VO_co (sx2) ?_
  refine goL ?_
  obtain ⟨g3, h⟩ := gd_s h
  obtain ⟨x4, hx4, h⟩ := lt_x h
  have sx4 := t_iBounds a0_2 g3
  rw [hx4] at sx4
  refine VO_co (sx4) ?_
  refine goL ?_
  obtain ⟨g5, h⟩ := gd_s h
  refine VO_mk (TParam.mk [] (TType.mk 0 [] [])) g5 ?_
  refine goL ?_
  refine V_block ?_
  show V _ _ _ _ _
  refine V_bd 19 (fun z9 => ?_)
  refine V_loop3 (fun (y8 : Nat) (y6 : List TParam) (v7 : Nat) => ⟨[(1, .ptr 0 0), (2, .ptr 1 0), (3, .sl 4 v7), (19, .d (.sl 4 (eParams a0_3))), (20, .d (.i .i64 (a0_3.length : Int))), (21, .d (.i .i64 (y8 : Int)))], [.box [.d (.s a0_0), .sl 2 0, .sl 3 0, .d (.sl 4 (eParams a0_3)), .d (.i .i64 a0_4_0), .d (.s a0_4_1), .d (.sl 3 (eTypes a0_4_2)), .d (.i .i64 a0_5_0), .d (.s a0_5_1), .d (.s a0_5_2), .d (.i .i64 a0_5_3), .d (.i .i64 a0_5_4_0), .d (.s a0_5_4_1), .d (.sl 3 (eTypes a0_5_4_2)), .d (.sl 9 (eExprs a0_5_5)), .d (.sl 11 (eArms a0_5_6))], .box [.d (.s []), .nilsl, .nilsl, .nilsl, .d (.i .i64 0), .d (.s []), .nilsl, .d (.i .i64 0), .d (.s []), .d (.s []), .d (.i .i64 0), .d (.i .i64 0), .d (.s []), .nilsl, .nilsl, .nilsl], .own 9 1 0 (eStrs x2), .own 180 4 0 (eBounds x4), .own 182 4 v7 (eParams y6)], Tryz.f121.ntmps⟩) (fun y8 y6 v7 => b_iFn_l1 (TFunction.mk a0_0 a0_1 a0_2 a0_3 (TType.mk a0_4_0 a0_4_1 a0_4_2) (TExpr.mk a0_5_0 a0_5_1 a0_5_2 a0_5_3 (TType.mk a0_5_4_0 a0_5_4_1 a0_5_4_2) a0_5_5 a0_5_6)) x2 x4 (a0_3.drop y8) y8 y6 = some r) (fun y8 y6 v7 => a0_3.length - y8) 0 (List.replicate a0_3.length (TParam.mk [] (TType.mk 0 [] []))) 0 ⟨rfl, ⟨⟨rfl, rfl⟩, ⟨rfl, rfl⟩, ⟨rfl, rfl⟩, ⟨rfl, rfl⟩, ⟨rfl, rfl⟩, ⟨rfl, rfl⟩, trivial⟩, ⟨[], rfl⟩, rfl⟩ h ?_
  rintro y8 y6 v7 h
  refine goL ?_
  refine V_seq (V_cb (fun c10 => ?_) (fun c10 => ?_))
  · have hky82 := kltN c10
    obtain ⟨x11, hx11, hdx11⟩ := drop_at hky82
    rw [hdx11, b_iFn_l1.eq_2] at h
    obtain ⟨x11_0, ⟨x11_1_0, x11_1_1, x11_1_2⟩⟩ := x11
    refine V_skip ?_
    show V _ _ _ _ _
    refine V_seq (V_block ?_)
    refine goL ?_
    refine VO_r (QR_ixn y8 (gParam hx11)) ?_
    refine goNL ?_
    refine V_drawX (P := Tryz.prog) Mix.h [(0, true), (1, true), (2, true), (3, true), (4, true), (5, true), (6, false), (7, true), (8, false), (9, false)] (by kernel_rfl) ?_
    refine goY ?_
    obtain ⟨g12, h⟩ := gd_s h
    obtain ⟨x13, hx13, h⟩ := lt_x h
    obtain ⟨x13_0, x13_1, x13_2⟩ := x13
    have sx13 := u_iCopyType (TType.mk x11_1_0 x11_1_1 x11_1_2) g12
    rw [hx13] at sx13
    refine VY_co (sx13) ?_
    refine goY ?_
    obtain ⟨g14, h⟩ := gd_s h
    refine VY_ixo y8 g14 ?_
    refine VY_st (TParam.mk x11_0 (TType.mk x13_0 x13_1 x13_2)) g14 ?_
    refine VY_nil ?_
    refine goL ?_
    refine VO_r (QR_inc y8 (by omega)) ?_
    refine goL ?_
    exact ⟨(y8 + 1), (y6.set y8 (TParam.mk x11_0 (TType.mk x13_0 x13_1 x13_2))), v7, h, by omega, ⟨rfl, ⟨⟨rfl, rfl⟩, ⟨rfl, rfl⟩, ⟨rfl, rfl⟩, ⟨rfl, rfl⟩, ⟨rfl, rfl⟩, ⟨rfl, rfl⟩, trivial⟩, ⟨_, rfl⟩, rfl⟩⟩
  · have hky82 := kgeN c10
    rw [drop_end hky82, b_iFn_l1.eq_1] at h
    refine V_exit ?_
    show V _ _ _ _ _
    refine goL ?_
    obtain ⟨g15, h⟩ := gd_s h
    obtain ⟨x16, hx16, h⟩ := lt_x h
    obtain ⟨x16_0, x16_1, x16_2⟩ := x16
    have sx16 := u_iCopyType (TType.mk a0_4_0 a0_4_1 a0_4_2) g15
    rw [hx16] at sx16
    refine VO_co (sx16) ?_
    refine goL ?_
    obtain ⟨g17, h⟩ := gd_s h
    obtain ⟨x18, hx18, h⟩ := lt_x h
    obtain ⟨x18_0, x18_1, x18_2, x18_3, ⟨x18_4_0, x18_4_1, x18_4_2⟩, x18_5, x18_6⟩ := x18
    have sx18 := u_iCopyEx (TExpr.mk a0_5_0 a0_5_1 a0_5_2 a0_5_3 (TType.mk a0_5_4_0 a0_5_4_1 a0_5_4_2) a0_5_5 a0_5_6) g17
    rw [hx18] at sx18
    refine VO_co (sx18) ?_
    refine goL ?_
    refine V_ret ?_
    replace h := Option.some.inj h
    subst h
    exact R_rO
theorem iFn_l1_eq (a0 : TFunction) (x2 : List (List UInt8)) (x4 : List TBound) : ∀ (xs : List TParam) (k : Nat) (y : List TParam), Ws (eParams xs) ≤ 4294967296 → y.length = k + xs.length → b_iFn_l1 a0 x2 x4 xs k y = b_iFn_l1 a0 x2 x4 [] (k + xs.length) (y.take k ++ xs)
  | [], k, y, _, h => by
    rw [List.take_of_length_le (by simp at h; omega), List.append_nil]
    rfl
  | x :: xs, k, y, h, h2 => by
    obtain ⟨z0, z1⟩ := x
    simp only [eParams, Ws, eParam, W, eTypes_ln, eStrs_ln, eExprs_ln, eArms_ln, eBounds_ln, eSignatures_ln, eConstructors_ln, eMethods_ln, eParams_ln, eTraits_ln, eDataTypes_ln, eInstances_ln, eFunctions_ln, ePackages_ln] at h
    simp only [List.length_cons] at h2
    rw [b_iFn_l1.eq_2]
    simp only [lt_, idX]
    repeat rw [gd_eq (by first | omega | (simp only [eParam, W, Ws, eTypes_ln, eStrs_ln, eExprs_ln, eArms_ln, eBounds_ln, eSignatures_ln, eConstructors_ln, eMethods_ln, eParams_ln, eTraits_ln, eDataTypes_ln, eInstances_ln, eFunctions_ln, ePackages_ln]; omega) | (simp only [List.length_nil, List.length_cons, List.length_set, List.length_append, Nat.zero_add, W, Ws, eTypes_ln, eStrs_ln, eExprs_ln, eArms_ln, eBounds_ln, eSignatures_ln, eConstructors_ln, eMethods_ln, eParams_ln, eTraits_ln, eDataTypes_ln, eInstances_ln, eFunctions_ln, ePackages_ln]; omega) | (simp; omega))]
    rw [iFn_l1_eq a0 x2 x4 xs (k + 1) _ (by omega) (by rw [List.length_set]; omega), take_set_succ (by omega)]
    have e : k + (xs.length + 1) = k + 1 + xs.length := by omega
    simp only [List.length_cons, e, List.append_assoc, List.cons_append, List.nil_append]
theorem iFn_eq (x : TFunction) (h : W (eFunction x) ≤ 4294967296) : b_iFn x = some (idX x) := by
  obtain ⟨z0, z1, z2, z3, z4, z5⟩ := x
  simp only [eFunction, W, Ws, eTypes_ln, eStrs_ln, eExprs_ln, eArms_ln, eBounds_ln, eSignatures_ln, eConstructors_ln, eMethods_ln, eParams_ln, eTraits_ln, eDataTypes_ln, eInstances_ln, eFunctions_ln, ePackages_ln] at h
  unfold b_iFn
  simp only [lt_, idX]
  repeat rw [gd_eq (by first | omega | (simp only [W, Ws, eTypes_ln, eStrs_ln, eExprs_ln, eArms_ln, eBounds_ln, eSignatures_ln, eConstructors_ln, eMethods_ln, eParams_ln, eTraits_ln, eDataTypes_ln, eInstances_ln, eFunctions_ln, ePackages_ln]; omega) | (simp only [List.length_nil, List.length_cons, List.length_set, List.length_append, Nat.zero_add, W, Ws, eTypes_ln, eStrs_ln, eExprs_ln, eArms_ln, eBounds_ln, eSignatures_ln, eConstructors_ln, eMethods_ln, eParams_ln, eTraits_ln, eDataTypes_ln, eInstances_ln, eFunctions_ln, ePackages_ln]; omega) | (simp; omega))]
  rw [iFn_l1_eq _ _ _ _ 0 _ (by omega) (by simp)]
  rw [b_iFn_l1.eq_1]
  simp only [lt_, idX, List.take_zero, List.nil_append]
  repeat rw [gd_eq (by first | omega | (simp only [W, Ws, eTypes_ln, eStrs_ln, eExprs_ln, eArms_ln, eBounds_ln, eSignatures_ln, eConstructors_ln, eMethods_ln, eParams_ln, eTraits_ln, eDataTypes_ln, eInstances_ln, eFunctions_ln, ePackages_ln]; omega) | (simp only [List.length_nil, List.length_cons, List.length_set, List.length_append, Nat.zero_add, W, Ws, eTypes_ln, eStrs_ln, eExprs_ln, eArms_ln, eBounds_ln, eSignatures_ln, eConstructors_ln, eMethods_ln, eParams_ln, eTraits_ln, eDataTypes_ln, eInstances_ln, eFunctions_ln, ePackages_ln]; omega) | (simp; omega))]
  try rfl
theorem t_iFn (x : TFunction) (h : W (eFunction x) ≤ 4294967296) : SpecO Tryz.prog 121 [.d (eFunction x)] [9, 180, 182, 84, 84, 118, 271] [eFunction (idX x)] := w_iFn x (iFn_eq x h)
def b_iPkg_l4 (a0 : TPackage) (x2 : List (List UInt8)) (y3 : List TTrait) (y12 : List TDataType) (y21 : List TInstance) : List TFunction → (List TFunction) → Option (TPackage)
  | [], y30 => (some (TPackage.mk a0.name x2 y3 y12 y21 y30))
  | x35 :: xs, y30 => gd (W (eFunction x35) ≤ 4294967296) (lt_ (idX x35) fun x37 =>
gd (y30.length + [x37].length ≤ 4294967296) (
b_iPkg_l4 a0 x2 y3 y12 y21 xs (y30 ++ [x37])))
def b_iPkg_l3 (a0 : TPackage) (x2 : List (List UInt8)) (y3 : List TTrait) (y12 : List TDataType) : List TInstance → (List TInstance) → Option (TPackage)
  | [], y21 => b_iPkg_l4 a0 x2 y3 y12 y21 a0.functions []
  | x26 :: xs, y21 => gd (W (eInstance x26) ≤ 4294967296) (lt_ (idX x26) fun x28 =>
gd (y21.length + [x28].length ≤ 4294967296) (
b_iPkg_l3 a0 x2 y3 y12 xs (y21 ++ [x28])))
def b_iPkg_l2 (a0 : TPackage) (x2 : List (List UInt8)) (y3 : List TTrait) : List TDataType → (List TDataType) → Option (TPackage)
  | [], y12 => b_iPkg_l3 a0 x2 y3 y12 a0.instances []
  | x17 :: xs, y12 => gd (W (eDataType x17) ≤ 4294967296) (lt_ (idX x17) fun x19 =>
gd (y12.length + [x19].length ≤ 4294967296) (
b_iPkg_l2 a0 x2 y3 xs (y12 ++ [x19])))
def b_iPkg_l1 (a0 : TPackage) (x2 : List (List UInt8)) : List TTrait → (List TTrait) → Option (TPackage)
  | [], y3 => b_iPkg_l2 a0 x2 y3 a0.dataTypes []
  | x8 :: xs, y3 => gd (W (eTrait x8) ≤ 4294967296) (lt_ (idX x8) fun x10 =>
gd (y3.length + [x10].length ≤ 4294967296) (
b_iPkg_l1 a0 x2 xs (y3 ++ [x10])))
def b_iPkg (a0 : TPackage) : Option (TPackage) :=
gd (W (.sl 1 (eStrs a0.deps)) ≤ 4294967296) (lt_ (idX a0.deps) fun x2 =>
b_iPkg_l1 a0 x2 a0.traits [])
set_option maxHeartbeats 4000000 in
theorem w_iPkg (a0 : TPackage) {r : TPackage} (h : b_iPkg a0 = some r) : SpecO Tryz.prog 70 [.d (ePackage a0)] [9, 112, 195, 88, 199] [ePackage r] := by
  obtain ⟨a0_0, a0_1, a0_2, a0_3, a0_4, a0_5⟩ := a0
  unfold b_iPkg at h
  refine SpecO_intro Tryz.func70 rfl (by kernel_rfl) rfl (by simp) fun A _ => ?_
  refine goNL ?_
  obtain ⟨g1, h⟩ := gd_s h
  obtain ⟨x2, hx2, h⟩ := lt_x h
  have sx2 := t_copyNames a0_1 g1
  rw [hx2] at sx2
  refine V_seq_drawTJ (P := Tryz.prog) Mix.h (.q 0 (.q 1 (.q 2 (.q 3 (.h 4 (.q 5 (.h 6 (.h 7 .nil .nil) .nil)) (.h 6 (.h 4 (.q 5 (.h 7 .nil .nil)) .nil) .nil)))))) ⟨[(1, .ptr 0 0), (2, .ptr 1 0), (3, .ptr 3 0)], [.box [.d (.s a0_0), .d (.sl 1 (eStrs a0_1)), .d (.sl 5 (eTraits a0_2)), .d (.sl 3 (eDataTypes a0_3)), .d (.sl 12 (eInstances a0_4)), .d (.sl 16 (eFunctions a0_5))], .box [.d (.s []), .nilsl, .nilsl, .nilsl, .nilsl, .nilsl], .own 9 1 0 (eStrs x2), .box [.d (.s a0_0), .sl 2 0, .nilsl, .nilsl, .nilsl, .nilsl]], Tryz.f70.ntmps⟩ (by kernel_rfl) ?_ ?_
  · refine goT ?_
    refine VT_h (VY_co (sx2) VY_e) ?_ ?_
    · refine goT ?_
      refine VT_nil ?_
      exact R_pk 0 [0, 1, 2, 3]
    refine goT ?_
    refine VT_h1 (VY_co (sx2) VY_e) ?_
    refine goT ?_
    refine VT_nil ?_
    exact R_pk 0 [0, 1, 3, 2]
  refine goL ?_
  refine V_block ?_
  show V _ _ _ _ _
  refine V_adopt 112 5 3 2 rfl rfl (by repeat constructor) (by repeat constructor) (by repeat constructor) (by repeat constructor) ?_
  show V _ _ _ _ _
  refine V_bd 19 (fun z6 => ?_)
  refine V_loop3 (fun (y5 : Nat) (y3 : List TTrait) (v4 : Nat) => ⟨[(1, .ptr 0 0), (2, .ptr 1 0), (3, .ptr 3 0), (19, .d (.sl 5 (eTraits a0_2))), (20, .d (.i .i64 (a0_2.length : Int))), (21, .d (.i .i64 (y5 : Int)))], [.box [.d (.s a0_0), .d (.sl 1 (eStrs a0_1)), .d (.sl 5 (eTraits a0_2)), .d (.sl 3 (eDataTypes a0_3)), .d (.sl 12 (eInstances a0_4)), .d (.sl 16 (eFunctions a0_5))], .box [.d (.s []), .nilsl, .nilsl, .nilsl, .nilsl, .nilsl], .own 9 1 0 (eStrs x2), .box [.d (.s a0_0), .sl 2 0, .sl 4 v4, .nilsl, .nilsl, .nilsl], .own 112 5 v4 (eTraits y3)], Tryz.f70.ntmps⟩) (fun y5 y3 v4 => b_iPkg_l1 (TPackage.mk a0_0 a0_1 a0_2 a0_3 a0_4 a0_5) x2 (a0_2.drop y5) y3 = some r) (fun y5 y3 v4 => a0_2.length - y5) 0 [] 0 ⟨rfl, ⟨⟨rfl, rfl⟩, ⟨rfl, rfl⟩, ⟨rfl, rfl⟩, ⟨rfl, rfl⟩, ⟨rfl, rfl⟩, ⟨rfl, rfl⟩, trivial⟩, ⟨[], rfl⟩, rfl⟩ h ?_
  rintro y5 y3 v4 h
  refine goL ?_
  refine V_seq (V_cb (fun c7 => ?_) (fun c7 => ?_))
  · have hky52 := kltN c7
    obtain ⟨x8, hx8, hdx8⟩ := drop_at hky52
    rw [hdx8, b_iPkg_l1.eq_2] at h
    obtain ⟨x8_0, x8_1, x8_2, x8_3, x8_4⟩ := x8
    refine V_skip ?_
    show V _ _ _ _ _
    refine V_seq (V_block ?_)
    refine goL ?_
    refine VO_r (QR_ixn y5 (gTrait hx8)) ?_
    refine goNL ?_
    refine V_drawX (P := Tryz.prog) Mix.h [(0, true), (1, true), (2, true), (3, false), (4, false), (5, false), (6, true), (7, false)] (by kernel_rfl) ?_
    refine goY ?_
    obtain ⟨g9, h⟩ := gd_s h
    obtain ⟨x10, hx10, h⟩ := lt_x h
    obtain ⟨x10_0, x10_1, x10_2, x10_3, x10_4⟩ := x10
    have sx10 := t_iTrait (TTrait.mk x8_0 x8_1 x8_2 x8_3 x8_4) g9
    rw [hx10] at sx10
    refine VY_co (sx10) ?_
    refine VY_l1t (T := 123) (TTrait.mk x10_0 x10_1 x10_2 x10_3 x10_4) ?_
    obtain ⟨g11, h⟩ := gd_s h
    refine VY_ap (T := 123) g11 ?_
    refine goY ?_
    refine VY_nil ?_
    refine goL ?_
    refine VO_r (QR_inc y5 (by omega)) ?_
    refine goL ?_
    exact ⟨(y5 + 1), (y3 ++ [(TTrait.mk x10_0 x10_1 x10_2 x10_3 x10_4)]), (v4 + 1), h, by omega, ⟨rfl, ⟨⟨rfl, rfl⟩, ⟨rfl, rfl⟩, ⟨rfl, rfl⟩, ⟨rfl, rfl⟩, ⟨rfl, rfl⟩, ⟨rfl, rfl⟩, trivial⟩, ⟨_, rfl⟩, rfl⟩⟩
  · have hky52 := kgeN c7
    rw [drop_end hky52, b_iPkg_l1.eq_1] at h
    refine V_exit ?_
    show V _ _ _ _ _
    refine goL ?_
    refine V_block ?_
    show V _ _ _ _ _
    refine V_adopt 195 3 3 3 rfl rfl (by repeat constructor) (by repeat constructor) (by repeat constructor) (by repeat constructor) ?_
    show V _ _ _ _ _
    refine V_bd 34 (fun z15 => ?_)
    refine V_loop3 (fun (y14 : Nat) (y12 : List TDataType) (v13 : Nat) => ⟨[(1, .ptr 0 0), (2, .ptr 1 0), (3, .ptr 3 0), (34, .d (.sl 3 (eDataTypes a0_3))), (35, .d (.i .i64 (a0_3.length : Int))), (36, .d (.i .i64 (y14 : Int)))], [.box [.d (.s a0_0), .d (.sl 1 (eStrs a0_1)), .d (.sl 5 (eTraits a0_2)), .d (.sl 3 (eDataTypes a0_3)), .d (.sl 12 (eInstances a0_4)), .d (.sl 16 (eFunctions a0_5))], .box [.d (.s []), .nilsl, .nilsl, .nilsl, .nilsl, .nilsl], .own 9 1 0 (eStrs x2), .box [.d (.s a0_0), .sl 2 0, .sl 4 v4, .sl 5 v13, .nilsl, .nilsl], .own 112 5 v4 (eTraits y3), .own 195 3 v13 (eDataTypes y12)], Tryz.f70.ntmps⟩) (fun y14 y12 v13 => b_iPkg_l2 (TPackage.mk a0_0 a0_1 a0_2 a0_3 a0_4 a0_5) x2 y3 (a0_3.drop y14) y12 = some r) (fun y14 y12 v13 => a0_3.length - y14) 0 [] 0 ⟨rfl, ⟨⟨rfl, rfl⟩, ⟨rfl, rfl⟩, ⟨rfl, rfl⟩, ⟨rfl, rfl⟩, ⟨rfl, rfl⟩, ⟨rfl, rfl⟩, trivial⟩, ⟨[], rfl⟩, rfl⟩ h ?_
    rintro y14 y12 v13 h
    refine goL ?_
    refine V_seq (V_cb (fun c16 => ?_) (fun c16 => ?_))
    · have hky142 := kltN c16
      obtain ⟨x17, hx17, hdx17⟩ := drop_at hky142
      rw [hdx17, b_iPkg_l2.eq_2] at h
      obtain ⟨x17_0, x17_1, x17_2⟩ := x17
      refine V_skip ?_
      show V _ _ _ _ _
      refine V_seq (V_block ?_)
      refine goL ?_
      refine VO_r (QR_ixn y14 (gDataType hx17)) ?_
      refine goNL ?_
      refine V_drawX (P := Tryz.prog) Mix.h [(0, true), (1, true), (2, true), (3, false), (4, false), (5, false), (6, true), (7, false)] (by kernel_rfl) ?_
      refine goY ?_
      obtain ⟨g18, h⟩ := gd_s h
      obtain ⟨x19, hx19, h⟩ := lt_x h
      obtain ⟨x19_0, x19_1, x19_2⟩ := x19
      have sx19 := t_iData (TDataType.mk x17_0 x17_1 x17_2) g18
      rw [hx19] at sx19
      refine VY_co (sx19) ?_
      refine VY_l1t (T := 124) (TDataType.mk x19_0 x19_1 x19_2) ?_
      obtain ⟨g20, h⟩ := gd_s h
      refine VY_ap (T := 124) g20 ?_
      refine goY ?_
      refine VY_nil ?_
      refine goL ?_
      refine VO_r (QR_inc y14 (by omega)) ?_
      refine goL ?_
      exact ⟨(y14 + 1), (y12 ++ [(TDataType.mk x19_0 x19_1 x19_2)]), (v13 + 1), h, by omega, ⟨rfl, ⟨⟨rfl, rfl⟩, ⟨rfl, rfl⟩, ⟨rfl, rfl⟩, ⟨rfl, rfl⟩, ⟨rfl, rfl⟩, ⟨rfl, rfl⟩, trivial⟩, ⟨_, rfl⟩, rfl⟩⟩
    · have hky142 := kgeN c16
      rw [drop_end hky142, b_iPkg_l2.eq_1] at h
      refine V_exit ?_
      show V _ _ _ _ _
      refine goL ?_
      refine V_block ?_
      show V _ _ _ _ _
      refine V_adopt 88 12 3 4 rfl rfl (by repeat constructor) (by repeat constructor) (by repeat constructor) (by repeat constructor) ?_
      show V _ _ _ _ _
      refine V_bd 49 (fun z24 => ?_)
      refine V_loop3 (fun (y23 : Nat) (y21 : List TInstance) (v22 : Nat) => ⟨[(1, .ptr 0 0), (2, .ptr 1 0), (3, .ptr 3 0), (49, .d (.sl 12 (eInstances a0_4))), (50, .d (.i .i64 (a0_4.length : Int))), (51, .d (.i .i64 (y23 : Int)))], [.box [.d (.s a0_0), .d (.sl 1 (eStrs a0_1)), .d (.sl 5 (eTraits a0_2)), .d (.sl 3 (eDataTypes a0_3)), .d (.sl 12 (eInstances a0_4)), .d (.sl 16 (eFunctions a0_5))], .box [.d (.s []), .nilsl, .nilsl, .nilsl, .nilsl, .nilsl], .own 9 1 0 (eStrs x2), .box [.d (.s a0_0), .sl 2 0, .sl 4 v4, .sl 5 v13, .sl 6 v22, .nilsl], .own 112 5 v4 (eTraits y3), .own 195 3 v13 (eDataTypes y12), .own 88 12 v22 (eInstances y21)], Tryz.f70.ntmps⟩) (fun y23 y21 v22 => b_iPkg_l3 (TPackage.mk a0_0 a0_1 a0_2 a0_3 a0_4 a0_5) x2 y3 y12 (a0_4.drop y23) y21 = some r) (fun y23 y21 v22 => a0_4.length - y23) 0 [] 0 ⟨rfl, ⟨⟨rfl, rfl⟩, ⟨rfl, rfl⟩, ⟨rfl, rfl⟩, ⟨rfl, rfl⟩, ⟨rfl, rfl⟩, ⟨rfl, rfl⟩, trivial⟩, ⟨[], rfl⟩, rfl⟩ h ?_
      rintro y23 y21 v22 h
      refine goL ?_
      refine V_seq (V_cb (fun c25 => ?_) (fun c25 => ?_))
      · have hky232 := kltN c25
        obtain ⟨x26, hx26, hdx26⟩ := drop_at hky232
        rw [hdx26, b_iPkg_l3.eq_2] at h
        obtain ⟨x26_0, x26_1, ⟨x26_2_0, x26_2_1, x26_2_2⟩, x26_3, x26_4, x26_5, ⟨x26_6_0, x26_6_1, x26_6_2⟩, x26_7⟩ := x26
        refine V_skip ?_
        show V _ _ _ _ _
        refine V_seq (V_block ?_)
        refine goL ?_
        refine VO_r (QR_ixn y23 (gInstance hx26)) ?_
        refine goNL ?_
        refine V_drawX (P := Tryz.prog) Mix.h [(0, true), (1, true), (2, true), (3, false), (4, false), (5, false), (6, true), (7, false)] (by kernel_rfl) ?_
        refine goY ?_
        obtain ⟨g27, h⟩ := gd_s h
        obtain ⟨x28, hx28, h⟩ := lt_x h
        obtain ⟨x28_0, x28_1, ⟨x28_2_0, x28_2_1, x28_2_2⟩, x28_3, x28_4, x28_5, ⟨x28_6_0, x28_6_1, x28_6_2⟩, x28_7⟩ := x28
        have sx28 := t_iInst (TInstance.mk x26_0 x26_1 (TType.mk x26_2_0 x26_2_1 x26_2_2) x26_3 x26_4 x26_5 (TType.mk x26_6_0 x26_6_1 x26_6_2) x26_7) g27
        rw [hx28] at sx28
        refine VY_co (sx28) ?_
        refine VY_l1t (T := 125) (TInstance.mk x28_0 x28_1 (TType.mk x28_2_0 x28_2_1 x28_2_2) x28_3 x28_4 x28_5 (TType.mk x28_6_0 x28_6_1 x28_6_2) x28_7) ?_
        obtain ⟨g29, h⟩ := gd_s h
        refine VY_ap (T := 125) g29 ?_
        refine goY ?_
        refine VY_nil ?_
        refine goL ?_
        refine VO_r (QR_inc y23 (by omega)) ?_
        refine goL ?_
        exact ⟨(y23 + 1), (y21 ++ [(TInstance.mk x28_0 x28_1 (TType.mk x28_2_0 x28_2_1 x28_2_2) x28_3 x28_4 x28_5 (TType.mk x28_6_0 x28_6_1 x28_6_2) x28_7)]), (v22 + 1), h, by omega, ⟨rfl, ⟨⟨rfl, rfl⟩, ⟨rfl, rfl⟩, ⟨rfl, rfl⟩, ⟨rfl, rfl⟩, ⟨rfl, rfl⟩, ⟨rfl, rfl⟩, trivial⟩, ⟨_, rfl⟩, rfl⟩⟩
      · have hky232 := kgeN c25
        rw [drop_end hky232, b_iPkg_l3.eq_1] at h
        refine V_exit ?_
        show V _ _ _ _ _
        refine goL ?_
        refine V_block ?_
        show V _ _ _ _ _
        refine V_adopt 199 16 3 5 rfl rfl (by repeat constructor) (by repeat constructor) (by repeat constructor) (by repeat constructor) ?_
        show V _ _ _ _ _
        refine V_bd 64 (fun z33 => ?_)
        refine V_loop3 (fun (y32 : Nat) (y30 : List TFunction) (v31 : Nat) => ⟨[(2, .ptr 1 0), (3, .ptr 3 0), (64, .d (.sl 16 (eFunctions a0_5))), (65, .d (.i .i64 (a0_5.length : Int))), (66, .d (.i .i64 (y32 : Int)))], [.box [.d (.s a0_0), .d (.sl 1 (eStrs a0_1)), .d (.sl 5 (eTraits a0_2)), .d (.sl 3 (eDataTypes a0_3)), .d (.sl 12 (eInstances a0_4)), .d (.sl 16 (eFunctions a0_5))], .box [.d (.s []), .nilsl, .nilsl, .nilsl, .nilsl, .nilsl], .own 9 1 0 (eStrs x2), .box [.d (.s a0_0), .sl 2 0, .sl 4 v4, .sl 5 v13, .sl 6 v22, .sl 7 v31], .own 112 5 v4 (eTraits y3), .own 195 3 v13 (eDataTypes y12), .own 88 12 v22 (eInstances y21), .own 199 16 v31 (eFunctions y30)], Tryz.f70.ntmps⟩) (fun y32 y30 v31 => b_iPkg_l4 (TPackage.mk a0_0 a0_1 a0_2 a0_3 a0_4 a0_5) x2 y3 y12 y21 (a0_5.drop y32) y30 = some r) (fun y32 y30 v31 => a0_5.length - y32) 0 [] 0 ⟨rfl, ⟨⟨rfl, rfl⟩, ⟨rfl, rfl⟩, ⟨rfl, rfl⟩, ⟨rfl, rfl⟩, ⟨rfl, rfl⟩, trivial⟩, ⟨[], rfl⟩, rfl⟩ h ?_
        rintro y32 y30 v31 h
        refine goL ?_
        refine V_seq (V_cb (fun c34 => ?_) (fun c34 => ?_))
        · have hky322 := kltN c34
          obtain ⟨x35, hx35, hdx35⟩ := drop_at hky322
          rw [hdx35, b_iPkg_l4.eq_2] at h
          obtain ⟨x35_0, x35_1, x35_2, x35_3, ⟨x35_4_0, x35_4_1, x35_4_2⟩, ⟨x35_5_0, x35_5_1, x35_5_2, x35_5_3, ⟨x35_5_4_0, x35_5_4_1, x35_5_4_2⟩, x35_5_5, x35_5_6⟩⟩ := x35
          refine V_skip ?_
          show V _ _ _ _ _
          refine V_seq (V_block ?_)
          refine goL ?_
          refine VO_r (QR_ixn y32 (gFunction hx35)) ?_
          refine goNL ?_
          refine V_drawX (P := Tryz.prog) Mix.h [(0, true), (1, true), (2, true), (3, false), (4, false), (5, false), (6, true), (7, false)] (by kernel_rfl) ?_
          refine goY ?_
          obtain ⟨g36, h⟩ := gd_s h
          obtain ⟨x37, hx37, h⟩ := lt_x h
          obtain ⟨x37_0, x37_1, x37_2, x37_3, ⟨x37_4_0, x37_4_1, x37_4_2⟩, ⟨x37_5_0, x37_5_1, x37_5_2, x37_5_3, ⟨x37_5_4_0, x37_5_4_1, x37_5_4_2⟩, x37_5_5, x37_5_6⟩⟩ := x37
          have sx37 := t_iFn (TFunction.mk x35_0 x35_1 x35_2 x35_3 (TType.mk x35_4_0 x35_4_1 x35_4_2) (TExpr.mk x35_5_0 x35_5_1 x35_5_2 x35_5_3 (TType.mk x35_5_4_0 x35_5_4_1 x35_5_4_2) x35_5_5 x35_5_6)) g36
          rw [hx37] at sx37
          refine VY_co (sx37) ?_
          refine VY_l1t (T := 126) (TFunction.mk x37_0 x37_1 x37_2 x37_3 (TType.mk x37_4_0 x37_4_1 x37_4_2) (TExpr.mk x37_5_0 x37_5_1 x37_5_2 x37_5_3 (TType.mk x37_5_4_0 x37_5_4_1 x37_5_4_2) x37_5_5 x37_5_6)) ?_
          obtain ⟨g38, h⟩ := gd_s h
          refine VY_ap (T := 126) g38 ?_
          refine goY ?_
          refine VY_nil ?_
          refine goL ?_
          refine VO_r (QR_inc y32 (by omega)) ?_
          refine goL ?_
          exact ⟨(y32 + 1), (y30 ++ [(TFunction.mk x37_0 x37_1 x37_2 x37_3 (TType.mk x37_4_0 x37_4_1 x37_4_2) (TExpr.mk x37_5_0 x37_5_1 x37_5_2 x37_5_3 (TType.mk x37_5_4_0 x37_5_4_1 x37_5_4_2) x37_5_5 x37_5_6))]), (v31 + 1), h, by omega, ⟨rfl, ⟨⟨rfl, rfl⟩, ⟨rfl, rfl⟩, ⟨rfl, rfl⟩, ⟨rfl, rfl⟩, ⟨rfl, rfl⟩, trivial⟩, ⟨_, rfl⟩, rfl⟩⟩
        · have hky322 := kgeN c34
          rw [drop_end hky322, b_iPkg_l4.eq_1] at h
          refine V_exit ?_
          show V _ _ _ _ _
          refine goL ?_
          refine V_ret ?_
          replace h := Option.some.inj h
          subst h
          exact R_rO
theorem iPkg_l4_eq (a0 : TPackage) (x2 : List (List UInt8)) (y3 : List TTrait) (y12 : List TDataType) (y21 : List TInstance) : ∀ (xs y : List TFunction), Ws (eFunctions xs) ≤ 4294967296 → y.length + xs.length ≤ 4294967296 → b_iPkg_l4 a0 x2 y3 y12 y21 xs y = b_iPkg_l4 a0 x2 y3 y12 y21 [] (y ++ xs)
  | [], y, _, h => by rw [List.append_nil]
  | x :: xs, y, h, h2 => by
    obtain ⟨z0, z1, z2, z3, z4, z5⟩ := x
    simp only [eFunctions, Ws, eFunction, W, eTypes_ln, eStrs_ln, eExprs_ln, eArms_ln, eBounds_ln, eSignatures_ln, eConstructors_ln, eMethods_ln, eParams_ln, eTraits_ln, eDataTypes_ln, eInstances_ln, eFunctions_ln, ePackages_ln] at h
    simp only [List.length_cons] at h2
    rw [b_iPkg_l4.eq_2]
    simp only [lt_, idX]
    repeat rw [gd_eq (by first | omega | (simp only [eFunction, W, Ws, eTypes_ln, eStrs_ln, eExprs_ln, eArms_ln, eBounds_ln, eSignatures_ln, eConstructors_ln, eMethods_ln, eParams_ln, eTraits_ln, eDataTypes_ln, eInstances_ln, eFunctions_ln, ePackages_ln]; omega) | (simp only [List.length_nil, List.length_cons, List.length_set, List.length_append, Nat.zero_add, W, Ws, eTypes_ln, eStrs_ln, eExprs_ln, eArms_ln, eBounds_ln, eSignatures_ln, eConstructors_ln, eMethods_ln, eParams_ln, eTraits_ln, eDataTypes_ln, eInstances_ln, eFunctions_ln, ePackages_ln]; omega) | (simp; omega))]
    rw [iPkg_l4_eq a0 x2 y3 y12 y21 xs _ (by omega) (by simp only [List.length_append, List.length_cons, List.length_nil]; omega)]
    simp only [List.append_assoc, List.cons_append, List.nil_append]
theorem iPkg_l3_eq (a0 : TPackage) (x2 : List (List UInt8)) (y3 : List TTrait) (y12 : List TDataType) : ∀ (xs y : List TInstance), Ws (eInstances xs) ≤ 4294967296 → y.length + xs.length ≤ 4294967296 → b_iPkg_l3 a0 x2 y3 y12 xs y = b_iPkg_l3 a0 x2 y3 y12 [] (y ++ xs)
  | [], y, _, h => by rw [List.append_nil]
  | x :: xs, y, h, h2 => by
    obtain ⟨z0, z1, z2, z3, z4, z5, z6, z7⟩ := x
    simp only [eInstances, Ws, eInstance, W, eTypes_ln, eStrs_ln, eExprs_ln, eArms_ln, eBounds_ln, eSignatures_ln, eConstructors_ln, eMethods_ln, eParams_ln, eTraits_ln, eDataTypes_ln, eInstances_ln, eFunctions_ln, ePackages_ln] at h
    simp only [List.length_cons] at h2
    rw [b_iPkg_l3.eq_2]
    simp only [lt_, idX]
    repeat rw [gd_eq (by first | omega | (simp only [eInstance, W, Ws, eTypes_ln, eStrs_ln, eExprs_ln, eArms_ln, eBounds_ln, eSignatures_ln, eConstructors_ln, eMethods_ln, eParams_ln, eTraits_ln, eDataTypes_ln, eInstances_ln, eFunctions_ln, ePackages_ln]; omega) | (simp only [List.length_nil, List.length_cons, List.length_set, List.length_append, Nat.zero_add, W, Ws, eTypes_ln, eStrs_ln, eExprs_ln, eArms_ln, eBounds_ln, eSignatures_ln, eConstructors_ln, eMethods_ln, eParams_ln, eTraits_ln, eDataTypes_ln, eInstances_ln, eFunctions_ln, ePackages_ln]; omega) | (simp; omega))]
    rw [iPkg_l3_eq a0 x2 y3 y12 xs _ (by omega) (by simp only [List.length_append, List.length_cons, List.length_nil]; omega)]
    simp only [List.append_assoc, List.cons_append, List.nil_append]
theorem iPkg_l2_eq (a0 : TPackage) (x2 : List (List UInt8)) (y3 : List TTrait) : ∀ (xs y : List TDataType), Ws (eDataTypes xs) ≤ 4294967296 → y.length + xs.length ≤ 4294967296 → b_iPkg_l2 a0 x2 y3 xs y = b_iPkg_l2 a0 x2 y3 [] (y ++ xs)
  | [], y, _, h => by rw [List.append_nil]
  | x :: xs, y, h, h2 => by
    obtain ⟨z0, z1, z2⟩ := x
    simp only [eDataTypes, Ws, eDataType, W, eTypes_ln, eStrs_ln, eExprs_ln, eArms_ln, eBounds_ln, eSignatures_ln, eConstructors_ln, eMethods_ln, eParams_ln, eTraits_ln, eDataTypes_ln, eInstances_ln, eFunctions_ln, ePackages_ln] at h
    simp only [List.length_cons] at h2
    rw [b_iPkg_l2.eq_2]
    simp only [lt_, idX]
    repeat rw [gd_eq (by first | omega | (simp only [eDataType, W, Ws, eTypes_ln, eStrs_ln, eExprs_ln, eArms_ln, eBounds_ln, eSignatures_ln, eConstructors_ln, eMethods_ln, eParams_ln, eTraits_ln, eDataTypes_ln, eInstances_ln, eFunctions_ln, ePackages_ln]; omega) | (simp only [List.length_nil, List.length_cons, List.length_set, List.length_append, Nat.zero_add, W, Ws, eTypes_ln, eStrs_ln, eExprs_ln, eArms_ln, eBounds_ln, eSignatures_ln, eConstructors_ln, eMethods_ln, eParams_ln, eTraits_ln, eDataTypes_ln, eInstances_ln, eFunctions_ln, ePackages_ln]; omega) | (simp; omega))]
    rw [iPkg_l2_eq a0 x2 y3 xs _ (by omega) (by simp only [List.length_append, List.length_cons, List.length_nil]; omega)]
    simp only [List.append_assoc, List.cons_append, List.nil_append]
theorem iPkg_l1_eq (a0 : TPackage) (x2 : List (List UInt8)) : ∀ (xs y : List TTrait), Ws (eTraits xs) ≤ 4294967296 → y.length + xs.length ≤ 4294967296 → b_iPkg_l1 a0 x2 xs y = b_iPkg_l1 a0 x2 [] (y ++ xs)
  | [], y, _, h => by rw [List.append_nil]
  | x :: xs, y, h, h2 => by
    obtain ⟨z0, z1, z2, z3, z4⟩ := x
    simp only [eTraits, Ws, eTrait, W, eTypes_ln, eStrs_ln, eExprs_ln, eArms_ln, eBounds_ln, eSignatures_ln, eConstructors_ln, eMethods_ln, eParams_ln, eTraits_ln, eDataTypes_ln, eInstances_ln, eFunctions_ln, ePackages_ln] at h
    simp only [List.length_cons] at h2
    rw [b_iPkg_l1.eq_2]
    simp only [lt_, idX]
    repeat rw [gd_eq (by first | omega | (simp only [eTrait, W, Ws, eTypes_ln, eStrs_ln, eExprs_ln, eArms_ln, eBounds_ln, eSignatures_ln, eConstructors_ln, eMethods_ln, eParams_ln, eTraits_ln, eDataTypes_ln, eInstances_ln, eFunctions_ln, ePackages_ln]; omega) | (simp only [List.length_nil, List.length_cons, List.length_set, List.length_append, Nat.zero_add, W, Ws, eTypes_ln, eStrs_ln, eExprs_ln, eArms_ln, eBounds_ln, eSignatures_ln, eConstructors_ln, eMethods_ln, eParams_ln, eTraits_ln, eDataTypes_ln, eInstances_ln, eFunctions_ln, ePackages_ln]; omega) | (simp; omega))]
    rw [iPkg_l1_eq a0 x2 xs _ (by omega) (by simp only [List.length_append, List.length_cons, List.length_nil]; omega)]
    simp only [List.append_assoc, List.cons_append, List.nil_append]
theorem iPkg_eq (x : TPackage) (h : W (ePackage x) ≤ 4294967296) : b_iPkg x = some (idX x) := by
  obtain ⟨z0, z1, z2, z3, z4, z5⟩ := x
  simp only [ePackage, W, Ws, eTypes_ln, eStrs_ln, eExprs_ln, eArms_ln, eBounds_ln, eSignatures_ln, eConstructors_ln, eMethods_ln, eParams_ln, eTraits_ln, eDataTypes_ln, eInstances_ln, eFunctions_ln, ePackages_ln] at h
  unfold b_iPkg
  simp only [lt_, idX]
  repeat rw [gd_eq (by first | omega | (simp only [W, Ws, eTypes_ln, eStrs_ln, eExprs_ln, eArms_ln, eBounds_ln, eSignatures_ln, eConstructors_ln, eMethods_ln, eParams_ln, eTraits_ln, eDataTypes_ln, eInstances_ln, eFunctions_ln, ePackages_ln]; omega) | (simp only [List.length_nil, List.length_cons, List.length_set, List.length_append, Nat.zero_add, W, Ws, eTypes_ln, eStrs_ln, eExprs_ln, eArms_ln, eBounds_ln, eSignatures_ln, eConstructors_ln, eMethods_ln, eParams_ln, eTraits_ln, eDataTypes_ln, eInstances_ln, eFunctions_ln, ePackages_ln]; omega) | (simp; omega))]
  rw [iPkg_l1_eq _ _ _ [] (by omega) (by simp only [List.length_nil]; omega)]
  rw [b_iPkg_l1.eq_1]
  simp only [lt_, idX, List.take_zero, List.nil_append]
  repeat rw [gd_eq (by first | omega | (simp only [W, Ws, eTypes_ln, eStrs_ln, eExprs_ln, eArms_ln, eBounds_ln, eSignatures_ln, eConstructors_ln, eMethods_ln, eParams_ln, eTraits_ln, eDataTypes_ln, eInstances_ln, eFunctions_ln, ePackages_ln]; omega) | (simp only [List.length_nil, List.length_cons, List.length_set, List.length_append, Nat.zero_add, W, Ws, eTypes_ln, eStrs_ln, eExprs_ln, eArms_ln, eBounds_ln, eSignatures_ln, eConstructors_ln, eMethods_ln, eParams_ln, eTraits_ln, eDataTypes_ln, eInstances_ln, eFunctions_ln, ePackages_ln]; omega) | (simp; omega))]
  rw [iPkg_l2_eq _ _ _ _ [] (by omega) (by simp only [List.length_nil]; omega)]
  rw [b_iPkg_l2.eq_1]
  simp only [lt_, idX, List.take_zero, List.nil_append]
  repeat rw [gd_eq (by first | omega | (simp only [W, Ws, eTypes_ln, eStrs_ln, eExprs_ln, eArms_ln, eBounds_ln, eSignatures_ln, eConstructors_ln, eMethods_ln, eParams_ln, eTraits_ln, eDataTypes_ln, eInstances_ln, eFunctions_ln, ePackages_ln]; omega) | (simp only [List.length_nil, List.length_cons, List.length_set, List.length_append, Nat.zero_add, W, Ws, eTypes_ln, eStrs_ln, eExprs_ln, eArms_ln, eBounds_ln, eSignatures_ln, eConstructors_ln, eMethods_ln, eParams_ln, eTraits_ln, eDataTypes_ln, eInstances_ln, eFunctions_ln, ePackages_ln]; omega) | (simp; omega))]
  rw [iPkg_l3_eq _ _ _ _ _ [] (by omega) (by simp only [List.length_nil]; omega)]
  rw [b_iPkg_l3.eq_1]
  simp only [lt_, idX, List.take_zero, List.nil_append]
  repeat rw [gd_eq (by first | omega | (simp only [W, Ws, eTypes_ln, eStrs_ln, eExprs_ln, eArms_ln, eBounds_ln, eSignatures_ln, eConstructors_ln, eMethods_ln, eParams_ln, eTraits_ln, eDataTypes_ln, eInstances_ln, eFunctions_ln, ePackages_ln]; omega) | (simp only [List.length_nil, List.length_cons, List.length_set, List.length_append, Nat.zero_add, W, Ws, eTypes_ln, eStrs_ln, eExprs_ln, eArms_ln, eBounds_ln, eSignatures_ln, eConstructors_ln, eMethods_ln, eParams_ln, eTraits_ln, eDataTypes_ln, eInstances_ln, eFunctions_ln, ePackages_ln]; omega) | (simp; omega))]
  rw [iPkg_l4_eq _ _ _ _ _ _ [] (by omega) (by simp only [List.length_nil]; omega)]
  rw [b_iPkg_l4.eq_1]
  simp only [lt_, idX, List.take_zero, List.nil_append]
  repeat rw [gd_eq (by first | omega | (simp only [W, Ws, eTypes_ln, eStrs_ln, eExprs_ln, eArms_ln, eBounds_ln, eSignatures_ln, eConstructors_ln, eMethods_ln, eParams_ln, eTraits_ln, eDataTypes_ln, eInstances_ln, eFunctions_ln, ePackages_ln]; omega) | (simp only [List.length_nil, List.length_cons, List.length_set, List.length_append, Nat.zero_add, W, Ws, eTypes_ln, eStrs_ln, eExprs_ln, eArms_ln, eBounds_ln, eSignatures_ln, eConstructors_ln, eMethods_ln, eParams_ln, eTraits_ln, eDataTypes_ln, eInstances_ln, eFunctions_ln, ePackages_ln]; omega) | (simp; omega))]
  try rfl
theorem t_iPkg (x : TPackage) (h : W (ePackage x) ≤ 4294967296) : SpecO Tryz.prog 70 [.d (ePackage x)] [9, 112, 195, 88, 199] [ePackage (idX x)] := w_iPkg x (iPkg_eq x h)
def b_iPkgs_l1 : List TPackage → Nat → (List TPackage) → Option (List TPackage)
  | [], y4, y2 => (some y2)
  | x7 :: xs, y4, y2 => gd (W (ePackage x7) ≤ 4294967296) (lt_ (idX x7) fun x9 =>
gd (y4 < y2.length) (
b_iPkgs_l1 xs (y4 + 1) (y2.set y4 x9)))
def b_iPkgs (a0 : List TPackage) : Option (List TPackage) :=
gd (a0.length ≤ 4294967296) (
b_iPkgs_l1 a0 0 (List.replicate a0.length (TPackage.mk [] [] [] [] [] [])))
set_option maxHeartbeats 4000000 in
theorem w_iPkgs (a0 : List TPackage) {r : List TPackage} (h : b_iPkgs a0 = some r) : SpecO Tryz.prog 30 [.d (.sl 6 (ePackages a0))] [128] [.sl 6 (ePackages r)] := by
  unfold b_iPkgs at h
  refine SpecO_intro Tryz.func30 rfl (by kernel_rfl) rfl (by simp) fun A _ => ?_
  refine goL ?_
  obtain ⟨g1, h⟩ := gd_s h
  refine VO_mk (TPackage.mk [] [] [] [] [] []) g1 ?_
  refine goL ?_
  refine V_block ?_
  show V _ _ _ _ _
  refine V_bd 9 (fun z5 => ?_)
  refine V_loop3 (fun (y4 : Nat) (y2 : List TPackage) (v3 : Nat) => ⟨[(3, .sl 0 v3), (9, .d (.sl 6 (ePackages a0))), (10, .d (.i .i64 (a0.length : Int))), (11, .d (.i .i64 (y4 : Int)))], [.own 128 6 v3 (ePackages y2)], Tryz.f30.ntmps⟩) (fun y4 y2 v3 => b_iPkgs_l1 (a0.drop y4) y4 y2 = some r) (fun y4 y2 v3 => a0.length - y4) 0 (List.replicate a0.length (TPackage.mk [] [] [] [] [] [])) 0 ⟨rfl, ⟨⟨rfl, rfl⟩, ⟨rfl, rfl⟩, ⟨rfl, rfl⟩, ⟨rfl, rfl⟩, trivial⟩, ⟨[], rfl⟩, rfl⟩ h ?_
  rintro y4 y2 v3 h
  refine goL ?_
  refine V_seq (V_cb (fun c6 => ?_) (fun c6 => ?_))
  · have hky42 := kltN c6
    obtain ⟨x7, hx7, hdx7⟩ := drop_at hky42
    rw [hdx7, b_iPkgs_l1.eq_2] at h
    obtain ⟨x7_0, x7_1, x7_2, x7_3, x7_4, x7_5⟩ := x7
    refine V_skip ?_
    show V _ _ _ _ _
    refine V_seq (V_block ?_)
    refine goL ?_
    refine VO_r (QR_ixn y4 (gPackage hx7)) ?_
    refine goL ?_
    obtain ⟨g8, h⟩ := gd_s h
    obtain ⟨x9, hx9, h⟩ := lt_x h
    obtain ⟨x9_0, x9_1, x9_2, x9_3, x9_4, x9_5⟩ := x9
    have sx9 := t_iPkg (TPackage.mk x7_0 x7_1 x7_2 x7_3 x7_4 x7_5) g8
    rw [hx9] at sx9
    refine VO_co (sx9) ?_
    obtain ⟨g10, h⟩ := gd_s h
    refine VO_k (Q_ixo y4 g10) ?_
    refine VO_st (TPackage.mk x9_0 x9_1 x9_2 x9_3 x9_4 x9_5) g10 ?_
    refine goL ?_
    refine VO_r (QR_inc y4 (by omega)) ?_
    refine goL ?_
    exact ⟨(y4 + 1), (y2.set y4 (TPackage.mk x9_0 x9_1 x9_2 x9_3 x9_4 x9_5)), v3, h, by omega, ⟨rfl, ⟨⟨rfl, rfl⟩, ⟨rfl, rfl⟩, ⟨rfl, rfl⟩, ⟨rfl, rfl⟩, trivial⟩, ⟨_, rfl⟩, rfl⟩⟩
  · have hky42 := kgeN c6
    rw [drop_end hky42, b_iPkgs_l1.eq_1] at h
    refine V_exit ?_
    show V _ _ _ _ _
    refine goL ?_
    refine V_ret ?_
    replace h := Option.some.inj h
    subst h
    exact R_rO
theorem iPkgs_l1_eq : ∀ (xs : List TPackage) (k : Nat) (y : List TPackage), Ws (ePackages xs) ≤ 4294967296 → y.length = k + xs.length → b_iPkgs_l1  xs k y = b_iPkgs_l1  [] (k + xs.length) (y.take k ++ xs)
  | [], k, y, _, h => by
    rw [List.take_of_length_le (by simp at h; omega), List.append_nil]
    rfl
  | x :: xs, k, y, h, h2 => by
    obtain ⟨z0, z1, z2, z3, z4, z5⟩ := x
    simp only [ePackages, Ws, ePackage, W, eTypes_ln, eStrs_ln, eExprs_ln, eArms_ln, eBounds_ln, eSignatures_ln, eConstructors_ln, eMethods_ln, eParams_ln, eTraits_ln, eDataTypes_ln, eInstances_ln, eFunctions_ln, ePackages_ln] at h
    simp only [List.length_cons] at h2
    rw [b_iPkgs_l1.eq_2]
    simp only [lt_, idX]
    repeat rw [gd_eq (by first | omega | (simp only [ePackage, W, Ws, eTypes_ln, eStrs_ln, eExprs_ln, eArms_ln, eBounds_ln, eSignatures_ln, eConstructors_ln, eMethods_ln, eParams_ln, eTraits_ln, eDataTypes_ln, eInstances_ln, eFunctions_ln, ePackages_ln]; omega) | (simp only [List.length_nil, List.length_cons, List.length_set, List.length_append, Nat.zero_add, W, Ws, eTypes_ln, eStrs_ln, eExprs_ln, eArms_ln, eBounds_ln, eSignatures_ln, eConstructors_ln, eMethods_ln, eParams_ln, eTraits_ln, eDataTypes_ln, eInstances_ln, eFunctions_ln, ePackages_ln]; omega) | (simp; omega))]
    rw [iPkgs_l1_eq  xs (k + 1) _ (by omega) (by rw [List.length_set]; omega), take_set_succ (by omega)]
    have e : k + (xs.length + 1) = k + 1 + xs.length := by omega
    simp only [List.length_cons, e, List.append_assoc, List.cons_append, List.nil_append]
theorem iPkgs_eq (x : List TPackage) (h : W (.sl 6 (ePackages x)) ≤ 4294967296) : b_iPkgs x = some (idX x) := by
  simp only [W, eTypes_ln, eStrs_ln, eExprs_ln, eArms_ln, eBounds_ln, eSignatures_ln, eConstructors_ln, eMethods_ln, eParams_ln, eTraits_ln, eDataTypes_ln, eInstances_ln, eFunctions_ln, ePackages_ln] at h
  unfold b_iPkgs
  simp only [lt_, idX]
  repeat rw [gd_eq (by first | omega | (simp only [W, Ws, eTypes_ln, eStrs_ln, eExprs_ln, eArms_ln, eBounds_ln, eSignatures_ln, eConstructors_ln, eMethods_ln, eParams_ln, eTraits_ln, eDataTypes_ln, eInstances_ln, eFunctions_ln, ePackages_ln]; omega) | (simp only [List.length_nil, List.length_cons, List.length_set, List.length_append, Nat.zero_add, W, Ws, eTypes_ln, eStrs_ln, eExprs_ln, eArms_ln, eBounds_ln, eSignatures_ln, eConstructors_ln, eMethods_ln, eParams_ln, eTraits_ln, eDataTypes_ln, eInstances_ln, eFunctions_ln, ePackages_ln]; omega) | (simp; omega))]
  rw [iPkgs_l1_eq  _ 0 _ (by omega) (by simp)]
  rw [b_iPkgs_l1.eq_1]
  simp only [lt_, idX, List.take_zero, List.nil_append]
  repeat rw [gd_eq (by first | omega | (simp only [W, Ws, eTypes_ln, eStrs_ln, eExprs_ln, eArms_ln, eBounds_ln, eSignatures_ln, eConstructors_ln, eMethods_ln, eParams_ln, eTraits_ln, eDataTypes_ln, eInstances_ln, eFunctions_ln, ePackages_ln]; omega) | (simp only [List.length_nil, List.length_cons, List.length_set, List.length_append, Nat.zero_add, W, Ws, eTypes_ln, eStrs_ln, eExprs_ln, eArms_ln, eBounds_ln, eSignatures_ln, eConstructors_ln, eMethods_ln, eParams_ln, eTraits_ln, eDataTypes_ln, eInstances_ln, eFunctions_ln, ePackages_ln]; omega) | (simp; omega))]
  try rfl
theorem t_iPkgs (x : List TPackage) (h : W (.sl 6 (ePackages x)) ≤ 4294967296) : SpecO Tryz.prog 30 [.d (.sl 6 (ePackages x))] [128] [.sl 6 (ePackages (idX x))] := w_iPkgs x (iPkgs_eq x h)
end Go.Proofs.YthojhakapbfbiaaGreat
