/- The engine, part 38: well-shaped data is the data of a structure. Written by a program of mine (gty2.py). -/
import Derived.Test.YtopgfacbgbmloaaFacts
set_option linter.unusedVariables false
set_option linter.unusedSimpArgs false
namespace Go.Eng
open Go Go.RowKit
theorem ofs {α : Type} {e : α → U} {es : List α → List U} {z : Nat} [E : Enc α e es z] : ∀ {us : List U}, (∀ u ∈ us, ∃ x, u = e x) → ∃ l, us = es l
  | [], _ => ⟨[], by rw [E.h]; rfl⟩
  | u :: us, h => by
    obtain ⟨x, rfl⟩ := h u (by simp)
    obtain ⟨l, rfl⟩ := ofs (us := us) (fun v hv => h v (by simp [hv]))
    exact ⟨x :: l, by rw [E.h, E.h]; rfl⟩
theorem ofInt {u : U} (h : wt .int u) : ∃ x, u = eInt x := by obtain ⟨n, rfl, _⟩ := inv_int h; exact ⟨n, rfl⟩
theorem ofStr {u : U} (h : wt .str u) : ∃ x, u = eStr x := by obtain ⟨n, rfl, _⟩ := inv_str h; exact ⟨n, rfl⟩
theorem ofBool {u : U} (h : wt .bool u) : ∃ x, u = eBool x := by obtain ⟨n, rfl⟩ := inv_bool h; exact ⟨n, rfl⟩

theorem ofSExpr (u : U) : wt (.st 0) u → ∃ x, u = eSExpr x := by
  refine U.ind (M := fun u => wt (.st 0) u → ∃ x, u = eSExpr x) (fun u ih h => ?_) u
  obtain ⟨q0_f0, q0_f1, rfl, q0_h0, q0_h1⟩ := inv_SExpr h
  obtain ⟨q0_l1, rfl⟩ := ofs (e := eSExpr) (fun a ha => ih a (by have := nn_of_mem ha; simp only [U.nn, U.nns] at *; omega) (q0_h1.2 a ha))
  exact ⟨⟨q0_f0, q0_l1⟩, rfl⟩
theorem ofType (u : U) : wt (.st 1) u → ∃ x, u = eType x := by
  refine U.ind (M := fun u => wt (.st 1) u → ∃ x, u = eType x) (fun u ih h => ?_) u
  obtain ⟨q0_f0, q0_f1, q0_f2, rfl, q0_h0, q0_h1, q0_h2⟩ := inv_Type h
  obtain ⟨q0_l2, rfl⟩ := ofs (e := eType) (fun a ha => ih a (by have := nn_of_mem ha; simp only [U.nn, U.nns] at *; omega) (q0_h2.2 a ha))
  exact ⟨⟨q0_f0, q0_f1, q0_l2⟩, rfl⟩
theorem ofBinding (u : U) (h : wt (.st 2) u) : ∃ x, u = eBinding x := by
  obtain ⟨q0_f0, q0_f1, rfl, q0_h0, q0_h1⟩ := inv_Binding h
  obtain ⟨q0_x1, rfl⟩ := ofType q0_f1 q0_h1
  exact ⟨⟨q0_f0, q0_x1⟩, rfl⟩
theorem ofExpr (u : U) : wt (.st 4) u → ∃ x, u = eExpr x := by
  refine U.ind (M := fun u => wt (.st 4) u → ∃ x, u = eExpr x) (fun u ih h => ?_) u
  obtain ⟨q0_f0, q0_f1, q0_f2, q0_f3, q0_f4, q0_f5, q0_f6, rfl, q0_h0, q0_h1, q0_h2, q0_h3, q0_h4, q0_h5, q0_h6⟩ := inv_Expr h
  obtain ⟨q0_x4, rfl⟩ := ofType q0_f4 q0_h4
  obtain ⟨q0_l5, rfl⟩ := ofs (e := eExpr) (fun a ha => ih a (by have := nn_of_mem ha; simp only [U.nn, U.nns] at *; omega) (q0_h5.2 a ha))
  obtain ⟨q0_l6, rfl⟩ : ∃ l, q0_f6 = eArms l := ofs (e := eArm) (fun a ha => by
    have hq := q0_h6.2 a ha
    have hnn := nn_of_mem ha
    obtain ⟨q1_f0, q1_f1, q1_f2, rfl, q1_h0, q1_h1, q1_h2⟩ := inv_Arm hq
    obtain ⟨q1_l1, rfl⟩ := ofs (e := eStr) (fun a ha => ofStr (q1_h1.2 a ha))
    obtain ⟨q1_x2, rfl⟩ := ih q1_f2 (by simp only [U.nn, U.nns] at *; omega) q1_h2
    exact ⟨⟨q1_f0, q1_l1, q1_x2⟩, rfl⟩)
  exact ⟨⟨q0_f0, q0_f1, q0_f2, q0_f3, q0_x4, q0_l5, q0_l6⟩, rfl⟩
theorem ofArm (u : U) (h : wt (.st 3) u) : ∃ x, u = eArm x := by
  obtain ⟨q0_f0, q0_f1, q0_f2, rfl, q0_h0, q0_h1, q0_h2⟩ := inv_Arm h
  obtain ⟨q0_l1, rfl⟩ := ofs (e := eStr) (fun a ha => ofStr (q0_h1.2 a ha))
  obtain ⟨q0_x2, rfl⟩ := ofExpr q0_f2 q0_h2
  exact ⟨⟨q0_f0, q0_l1, q0_x2⟩, rfl⟩
theorem ofSignature (u : U) (h : wt (.st 5) u) : ∃ x, u = eSignature x := by
  obtain ⟨q0_f0, q0_f1, q0_f2, q0_f3, q0_f4, q0_f5, rfl, q0_h0, q0_h1, q0_h2, q0_h4, q0_h5⟩ := inv_Signature h
  obtain ⟨q0_l1, rfl⟩ := ofs (e := eType) (fun a ha => ofType a (q0_h1.2 a ha))
  obtain ⟨q0_x2, rfl⟩ := ofType q0_f2 q0_h2
  obtain ⟨q0_l4, rfl⟩ := ofs (e := eStr) (fun a ha => ofStr (q0_h4.2 a ha))
  obtain ⟨q0_x5, rfl⟩ := ofExpr q0_f5 q0_h5
  exact ⟨⟨q0_f0, q0_l1, q0_x2, q0_f3, q0_l4, q0_x5⟩, rfl⟩
theorem ofTrait (u : U) (h : wt (.st 6) u) : ∃ x, u = eTrait x := by
  obtain ⟨q0_f0, q0_f1, q0_f2, q0_f3, q0_f4, rfl, q0_h0, q0_h1, q0_h4⟩ := inv_Trait h
  obtain ⟨q0_l1, rfl⟩ := ofs (e := eStr) (fun a ha => ofStr (q0_h1.2 a ha))
  obtain ⟨q0_l4, rfl⟩ := ofs (e := eSignature) (fun a ha => ofSignature a (q0_h4.2 a ha))
  exact ⟨⟨q0_f0, q0_l1, q0_f2, q0_f3, q0_l4⟩, rfl⟩
theorem ofConstructor (u : U) (h : wt (.st 7) u) : ∃ x, u = eConstructor x := by
  obtain ⟨q0_f0, q0_f1, rfl, q0_h0, q0_h1⟩ := inv_Constructor h
  obtain ⟨q0_l1, rfl⟩ := ofs (e := eType) (fun a ha => ofType a (q0_h1.2 a ha))
  exact ⟨⟨q0_f0, q0_l1⟩, rfl⟩
theorem ofDataType (u : U) (h : wt (.st 8) u) : ∃ x, u = eDataType x := by
  obtain ⟨q0_f0, q0_f1, q0_f2, rfl, q0_h0, q0_h1, q0_h2⟩ := inv_DataType h
  obtain ⟨q0_l1, rfl⟩ := ofs (e := eStr) (fun a ha => ofStr (q0_h1.2 a ha))
  obtain ⟨q0_l2, rfl⟩ := ofs (e := eConstructor) (fun a ha => ofConstructor a (q0_h2.2 a ha))
  exact ⟨⟨q0_f0, q0_l1, q0_l2⟩, rfl⟩
theorem ofBound (u : U) (h : wt (.st 9) u) : ∃ x, u = eBound x := by
  obtain ⟨q0_f0, q0_f1, rfl, q0_h0, q0_h1⟩ := inv_Bound h
  obtain ⟨q0_x1, rfl⟩ := ofType q0_f1 q0_h1
  exact ⟨⟨q0_f0, q0_x1⟩, rfl⟩
theorem ofMethod (u : U) (h : wt (.st 10) u) : ∃ x, u = eMethod x := by
  obtain ⟨q0_f0, q0_f1, q0_f2, rfl, q0_h0, q0_h1, q0_h2⟩ := inv_Method h
  obtain ⟨q0_l1, rfl⟩ := ofs (e := eStr) (fun a ha => ofStr (q0_h1.2 a ha))
  obtain ⟨q0_x2, rfl⟩ := ofExpr q0_f2 q0_h2
  exact ⟨⟨q0_f0, q0_l1, q0_x2⟩, rfl⟩
theorem ofInstance (u : U) (h : wt (.st 11) u) : ∃ x, u = eInstance x := by
  obtain ⟨q0_f0, q0_f1, q0_f2, q0_f3, q0_f4, q0_f5, q0_f6, q0_f7, rfl, q0_h0, q0_h1, q0_h2, q0_h3, q0_h6, q0_h7⟩ := inv_Instance h
  obtain ⟨q0_l1, rfl⟩ := ofs (e := eStr) (fun a ha => ofStr (q0_h1.2 a ha))
  obtain ⟨q0_x2, rfl⟩ := ofType q0_f2 q0_h2
  obtain ⟨q0_l3, rfl⟩ := ofs (e := eBound) (fun a ha => ofBound a (q0_h3.2 a ha))
  obtain ⟨q0_x6, rfl⟩ := ofType q0_f6 q0_h6
  obtain ⟨q0_l7, rfl⟩ := ofs (e := eMethod) (fun a ha => ofMethod a (q0_h7.2 a ha))
  exact ⟨⟨q0_f0, q0_l1, q0_x2, q0_l3, q0_f4, q0_f5, q0_x6, q0_l7⟩, rfl⟩
theorem ofParam (u : U) (h : wt (.st 12) u) : ∃ x, u = eParam x := by
  obtain ⟨q0_f0, q0_f1, rfl, q0_h0, q0_h1⟩ := inv_Param h
  obtain ⟨q0_x1, rfl⟩ := ofType q0_f1 q0_h1
  exact ⟨⟨q0_f0, q0_x1⟩, rfl⟩
theorem ofFunction (u : U) (h : wt (.st 13) u) : ∃ x, u = eFunction x := by
  obtain ⟨q0_f0, q0_f1, q0_f2, q0_f3, q0_f4, q0_f5, rfl, q0_h0, q0_h1, q0_h2, q0_h3, q0_h4, q0_h5⟩ := inv_Function h
  obtain ⟨q0_l1, rfl⟩ := ofs (e := eStr) (fun a ha => ofStr (q0_h1.2 a ha))
  obtain ⟨q0_l2, rfl⟩ := ofs (e := eBound) (fun a ha => ofBound a (q0_h2.2 a ha))
  obtain ⟨q0_l3, rfl⟩ := ofs (e := eParam) (fun a ha => ofParam a (q0_h3.2 a ha))
  obtain ⟨q0_x4, rfl⟩ := ofType q0_f4 q0_h4
  obtain ⟨q0_x5, rfl⟩ := ofExpr q0_f5 q0_h5
  exact ⟨⟨q0_f0, q0_l1, q0_l2, q0_l3, q0_x4, q0_x5⟩, rfl⟩
theorem ofPackage (u : U) (h : wt (.st 14) u) : ∃ x, u = ePackage x := by
  obtain ⟨q0_f0, q0_f1, q0_f2, q0_f3, q0_f4, q0_f5, rfl, q0_h0, q0_h1, q0_h2, q0_h3, q0_h4, q0_h5⟩ := inv_Package h
  obtain ⟨q0_l1, rfl⟩ := ofs (e := eStr) (fun a ha => ofStr (q0_h1.2 a ha))
  obtain ⟨q0_l2, rfl⟩ := ofs (e := eTrait) (fun a ha => ofTrait a (q0_h2.2 a ha))
  obtain ⟨q0_l3, rfl⟩ := ofs (e := eDataType) (fun a ha => ofDataType a (q0_h3.2 a ha))
  obtain ⟨q0_l4, rfl⟩ := ofs (e := eInstance) (fun a ha => ofInstance a (q0_h4.2 a ha))
  obtain ⟨q0_l5, rfl⟩ := ofs (e := eFunction) (fun a ha => ofFunction a (q0_h5.2 a ha))
  exact ⟨⟨q0_f0, q0_l1, q0_l2, q0_l3, q0_l4, q0_l5⟩, rfl⟩
theorem ofProgram (u : U) (h : wt (.st 15) u) : ∃ x, u = eProgram x := by
  obtain ⟨q0_f0, rfl, q0_h0⟩ := inv_Program h
  obtain ⟨q0_l0, rfl⟩ := ofs (e := ePackage) (fun a ha => ofPackage a (q0_h0.2 a ha))
  exact ⟨⟨q0_l0⟩, rfl⟩
theorem ofInstanceRef (u : U) (h : wt (.st 16) u) : ∃ x, u = eInstanceRef x := by
  obtain ⟨q0_f0, q0_f1, rfl, q0_h0, q0_h1⟩ := inv_InstanceRef h
  exact ⟨⟨q0_f0, q0_f1⟩, rfl⟩
theorem ofAssumption (u : U) (h : wt (.st 17) u) : ∃ x, u = eAssumption x := by
  obtain ⟨q0_f0, q0_f1, q0_f2, rfl, q0_h0, q0_h1, q0_h2⟩ := inv_Assumption h
  obtain ⟨q0_x0, rfl⟩ := ofBound q0_f0 q0_h0
  obtain ⟨q0_l2, rfl⟩ := ofs (e := eInt) (fun a ha => ofInt (q0_h2.2 a ha))
  exact ⟨⟨q0_x0, q0_f1, q0_l2⟩, rfl⟩
theorem ofEvidence (u : U) : wt (.st 18) u → ∃ x, u = eEvidence x := by
  refine U.ind (M := fun u => wt (.st 18) u → ∃ x, u = eEvidence x) (fun u ih h => ?_) u
  obtain ⟨q0_f0, q0_f1, q0_f2, q0_f3, rfl, q0_h0, q0_h1, q0_h2, q0_h3⟩ := inv_Evidence h
  obtain ⟨q0_x2, rfl⟩ := ofInstanceRef q0_f2 q0_h2
  obtain ⟨q0_l3, rfl⟩ := ofs (e := eEvidence) (fun a ha => ih a (by have := nn_of_mem ha; simp only [U.nn, U.nns] at *; omega) (q0_h3.2 a ha))
  exact ⟨⟨q0_f0, q0_f1, q0_x2, q0_l3⟩, rfl⟩
theorem ofCache (u : U) (h : wt (.st 19) u) : ∃ x, u = eCache x := by
  obtain ⟨q0_f0, q0_f1, q0_f2, rfl, q0_h0, q0_h1, q0_h2⟩ := inv_Cache h
  obtain ⟨q0_l0, rfl⟩ := ofs (e := eBound) (fun a ha => ofBound a (q0_h0.2 a ha))
  obtain ⟨q0_l1, rfl⟩ := ofs (e := eInt) (fun a ha => ofInt (q0_h1.2 a ha))
  obtain ⟨q0_l2, rfl⟩ := ofs (e := eEvidence) (fun a ha => ofEvidence a (q0_h2.2 a ha))
  exact ⟨⟨q0_l0, q0_l1, q0_l2⟩, rfl⟩
theorem ofCore (u : U) : wt (.st 21) u → ∃ x, u = eCore x := by
  refine U.ind (M := fun u => wt (.st 21) u → ∃ x, u = eCore x) (fun u ih h => ?_) u
  obtain ⟨q0_f0, q0_f1, q0_f2, q0_f3, q0_f4, q0_f5, q0_f6, q0_f7, q0_f8, rfl, q0_h0, q0_h1, q0_h2, q0_h3, q0_h4, q0_h5, q0_h6, q0_h7, q0_h8⟩ := inv_Core h
  obtain ⟨q0_x4, rfl⟩ := ofType q0_f4 q0_h4
  obtain ⟨q0_l5, rfl⟩ := ofs (e := eType) (fun a ha => ofType a (q0_h5.2 a ha))
  obtain ⟨q0_l6, rfl⟩ := ofs (e := eEvidence) (fun a ha => ofEvidence a (q0_h6.2 a ha))
  obtain ⟨q0_l7, rfl⟩ := ofs (e := eCore) (fun a ha => ih a (by have := nn_of_mem ha; simp only [U.nn, U.nns] at *; omega) (q0_h7.2 a ha))
  obtain ⟨q0_l8, rfl⟩ : ∃ l, q0_f8 = eCoreArms l := ofs (e := eCoreArm) (fun a ha => by
    have hq := q0_h8.2 a ha
    have hnn := nn_of_mem ha
    obtain ⟨q1_f0, q1_f1, q1_f2, rfl, q1_h0, q1_h1, q1_h2⟩ := inv_CoreArm hq
    obtain ⟨q1_l1, rfl⟩ := ofs (e := eStr) (fun a ha => ofStr (q1_h1.2 a ha))
    obtain ⟨q1_x2, rfl⟩ := ih q1_f2 (by simp only [U.nn, U.nns] at *; omega) q1_h2
    exact ⟨⟨q1_f0, q1_l1, q1_x2⟩, rfl⟩)
  exact ⟨⟨q0_f0, q0_f1, q0_f2, q0_f3, q0_x4, q0_l5, q0_l6, q0_l7, q0_l8⟩, rfl⟩
theorem ofCoreArm (u : U) (h : wt (.st 20) u) : ∃ x, u = eCoreArm x := by
  obtain ⟨q0_f0, q0_f1, q0_f2, rfl, q0_h0, q0_h1, q0_h2⟩ := inv_CoreArm h
  obtain ⟨q0_l1, rfl⟩ := ofs (e := eStr) (fun a ha => ofStr (q0_h1.2 a ha))
  obtain ⟨q0_x2, rfl⟩ := ofCore q0_f2 q0_h2
  exact ⟨⟨q0_f0, q0_l1, q0_x2⟩, rfl⟩
theorem ofEquation (u : U) (h : wt (.st 22) u) : ∃ x, u = eEquation x := by
  obtain ⟨q0_f0, q0_f1, q0_f2, rfl, q0_h0, q0_h1, q0_h2⟩ := inv_Equation h
  obtain ⟨q0_x0, rfl⟩ := ofType q0_f0 q0_h0
  obtain ⟨q0_x1, rfl⟩ := ofType q0_f1 q0_h1
  exact ⟨⟨q0_x0, q0_x1, q0_f2⟩, rfl⟩
theorem ofObligation (u : U) (h : wt (.st 23) u) : ∃ x, u = eObligation x := by
  obtain ⟨q0_f0, q0_f1, rfl, q0_h0, q0_h1⟩ := inv_Obligation h
  obtain ⟨q0_x0, rfl⟩ := ofBound q0_f0 q0_h0
  exact ⟨⟨q0_x0, q0_f1⟩, rfl⟩
theorem ofInferState (u : U) (h : wt (.st 24) u) : ∃ x, u = eInferState x := by
  obtain ⟨q0_f0, q0_f1, q0_f2, q0_f3, q0_f4, q0_f5, q0_f6, q0_f7, rfl, q0_h0, q0_h1, q0_h2, q0_h3, q0_h4, q0_h5, q0_h6, q0_h7⟩ := inv_InferState h
  obtain ⟨q0_l3, rfl⟩ := ofs (e := eBinding) (fun a ha => ofBinding a (q0_h3.2 a ha))
  obtain ⟨q0_l4, rfl⟩ := ofs (e := eEquation) (fun a ha => ofEquation a (q0_h4.2 a ha))
  obtain ⟨q0_l5, rfl⟩ := ofs (e := eObligation) (fun a ha => ofObligation a (q0_h5.2 a ha))
  exact ⟨⟨q0_f0, q0_f1, q0_f2, q0_l3, q0_l4, q0_l5, q0_f6, q0_f7⟩, rfl⟩
theorem ofUnit (u : U) (h : wt (.st 25) u) : ∃ x, u = eUnit x := by
  obtain ⟨q0_f0, q0_f1, q0_f2, q0_f3, q0_f4, q0_f5, q0_f6, q0_f7, q0_f8, rfl, q0_h0, q0_h1, q0_h2, q0_h3, q0_h4, q0_h5, q0_h6, q0_h7, q0_h8⟩ := inv_Unit h
  obtain ⟨q0_l4, rfl⟩ := ofs (e := eStr) (fun a ha => ofStr (q0_h4.2 a ha))
  obtain ⟨q0_l5, rfl⟩ := ofs (e := eBound) (fun a ha => ofBound a (q0_h5.2 a ha))
  obtain ⟨q0_l6, rfl⟩ := ofs (e := eParam) (fun a ha => ofParam a (q0_h6.2 a ha))
  obtain ⟨q0_x7, rfl⟩ := ofType q0_f7 q0_h7
  obtain ⟨q0_x8, rfl⟩ := ofCore q0_f8 q0_h8
  exact ⟨⟨q0_f0, q0_f1, q0_f2, q0_f3, q0_l4, q0_l5, q0_l6, q0_x7, q0_x8⟩, rfl⟩
theorem ofDictionary (u : U) : wt (.st 26) u → ∃ x, u = eDictionary x := by
  refine U.ind (M := fun u => wt (.st 26) u → ∃ x, u = eDictionary x) (fun u ih h => ?_) u
  obtain ⟨q0_f0, q0_f1, q0_f2, q0_f3, rfl, q0_h0, q0_h1, q0_h2, q0_h3⟩ := inv_Dictionary h
  obtain ⟨q0_x1, rfl⟩ := ofInstanceRef q0_f1 q0_h1
  obtain ⟨q0_l2, rfl⟩ := ofs (e := eInt) (fun a ha => ofInt (q0_h2.2 a ha))
  obtain ⟨q0_l3, rfl⟩ := ofs (e := eDictionary) (fun a ha => ih a (by have := nn_of_mem ha; simp only [U.nn, U.nns] at *; omega) (q0_h3.2 a ha))
  exact ⟨⟨q0_f0, q0_x1, q0_l2, q0_l3⟩, rfl⟩
theorem ofValue (u : U) : wt (.st 27) u → ∃ x, u = eValue x := by
  refine U.ind (M := fun u => wt (.st 27) u → ∃ x, u = eValue x) (fun u ih h => ?_) u
  obtain ⟨q0_f0, q0_f1, q0_f2, q0_f3, q0_f4, rfl, q0_h0, q0_h1, q0_h2, q0_h3, q0_h4⟩ := inv_Value h
  obtain ⟨q0_x3, rfl⟩ := ofDictionary q0_f3 q0_h3
  obtain ⟨q0_l4, rfl⟩ := ofs (e := eValue) (fun a ha => ih a (by have := nn_of_mem ha; simp only [U.nn, U.nns] at *; omega) (q0_h4.2 a ha))
  exact ⟨⟨q0_f0, q0_f1, q0_f2, q0_x3, q0_l4⟩, rfl⟩
theorem ofSpecialization (u : U) (h : wt (.st 28) u) : ∃ x, u = eSpecialization x := by
  obtain ⟨q0_f0, q0_f1, q0_f2, q0_f3, rfl, q0_h0, q0_h1, q0_h2, q0_h3⟩ := inv_Specialization h
  obtain ⟨q0_l1, rfl⟩ := ofs (e := eType) (fun a ha => ofType a (q0_h1.2 a ha))
  obtain ⟨q0_l2, rfl⟩ := ofs (e := eStr) (fun a ha => ofStr (q0_h2.2 a ha))
  obtain ⟨q0_x3, rfl⟩ := ofCore q0_f3 q0_h3
  exact ⟨⟨q0_f0, q0_l1, q0_l2, q0_x3⟩, rfl⟩
theorem ofMethodEntry (u : U) (h : wt (.st 29) u) : ∃ x, u = eMethodEntry x := by
  obtain ⟨q0_f0, q0_f1, q0_f2, rfl, q0_h0, q0_h1, q0_h2⟩ := inv_MethodEntry h
  exact ⟨⟨q0_f0, q0_f1, q0_f2⟩, rfl⟩
theorem ofMethodTable (u : U) (h : wt (.st 30) u) : ∃ x, u = eMethodTable x := by
  obtain ⟨q0_f0, q0_f1, q0_f2, rfl, q0_h0, q0_h1, q0_h2⟩ := inv_MethodTable h
  obtain ⟨q0_x1, rfl⟩ := ofType q0_f1 q0_h1
  obtain ⟨q0_l2, rfl⟩ := ofs (e := eMethodEntry) (fun a ha => ofMethodEntry a (q0_h2.2 a ha))
  exact ⟨⟨q0_f0, q0_x1, q0_l2⟩, rfl⟩
theorem ofMonoProgram (u : U) (h : wt (.st 31) u) : ∃ x, u = eMonoProgram x := by
  obtain ⟨q0_f0, q0_f1, rfl, q0_h0, q0_h1⟩ := inv_MonoProgram h
  obtain ⟨q0_l0, rfl⟩ := ofs (e := eSpecialization) (fun a ha => ofSpecialization a (q0_h0.2 a ha))
  obtain ⟨q0_l1, rfl⟩ := ofs (e := eMethodTable) (fun a ha => ofMethodTable a (q0_h1.2 a ha))
  exact ⟨⟨q0_l0, q0_l1⟩, rfl⟩
theorem ofInstr (u : U) (h : wt (.st 32) u) : ∃ x, u = eInstr x := by
  obtain ⟨q0_f0, q0_f1, q0_f2, q0_f3, q0_f4, rfl, q0_h0, q0_h1, q0_h2, q0_h3, q0_h4⟩ := inv_Instr h
  exact ⟨⟨q0_f0, q0_f1, q0_f2, q0_f3, q0_f4⟩, rfl⟩
theorem ofCode (u : U) (h : wt (.st 33) u) : ∃ x, u = eCode x := by
  obtain ⟨q0_f0, q0_f1, rfl, q0_h0, q0_h1⟩ := inv_Code h
  obtain ⟨q0_l1, rfl⟩ := ofs (e := eInstr) (fun a ha => ofInstr a (q0_h1.2 a ha))
  exact ⟨⟨q0_f0, q0_l1⟩, rfl⟩
theorem ofMachine (u : U) (h : wt (.st 34) u) : ∃ x, u = eMachine x := by
  obtain ⟨q0_f0, q0_f1, rfl, q0_h0, q0_h1⟩ := inv_Machine h
  obtain ⟨q0_l0, rfl⟩ := ofs (e := eCode) (fun a ha => ofCode a (q0_h0.2 a ha))
  obtain ⟨q0_l1, rfl⟩ := ofs (e := eMethodTable) (fun a ha => ofMethodTable a (q0_h1.2 a ha))
  exact ⟨⟨q0_l0, q0_l1⟩, rfl⟩
theorem ofFrame (u : U) (h : wt (.st 35) u) : ∃ x, u = eFrame x := by
  obtain ⟨q0_f0, q0_f1, q0_f2, q0_f3, rfl, q0_h0, q0_h1, q0_h2, q0_h3⟩ := inv_Frame h
  obtain ⟨q0_l3, rfl⟩ := ofs (e := eValue) (fun a ha => ofValue a (q0_h3.2 a ha))
  exact ⟨⟨q0_f0, q0_f1, q0_f2, q0_l3⟩, rfl⟩
theorem ofVM (u : U) (h : wt (.st 36) u) : ∃ x, u = eVM x := by
  obtain ⟨q0_f0, q0_f1, q0_f2, q0_f3, q0_f4, rfl, q0_h0, q0_h1, q0_h2, q0_h3⟩ := inv_VM h
  obtain ⟨q0_l0, rfl⟩ := ofs (e := eValue) (fun a ha => ofValue a (q0_h0.2 a ha))
  obtain ⟨q0_l1, rfl⟩ := ofs (e := eFrame) (fun a ha => ofFrame a (q0_h1.2 a ha))
  exact ⟨⟨q0_l0, q0_l1, q0_f2, q0_f3, q0_f4⟩, rfl⟩
theorem ofUnitError (u : U) (h : wt (.st 37) u) : ∃ x, u = eUnitError x := by
  obtain ⟨q0_f0, q0_f1, q0_f2, q0_f3, q0_f4, q0_f5, rfl, q0_h0, q0_h1, q0_h2, q0_h3, q0_h4, q0_h5⟩ := inv_UnitError h
  exact ⟨⟨q0_f0, q0_f1, q0_f2, q0_f3, q0_f4, q0_f5⟩, rfl⟩
theorem ofBuiltPackage (u : U) (h : wt (.st 38) u) : ∃ x, u = eBuiltPackage x := by
  obtain ⟨q0_f0, q0_f1, q0_f2, q0_f3, rfl, q0_h0, q0_h1, q0_h2, q0_h3⟩ := inv_BuiltPackage h
  obtain ⟨q0_l2, rfl⟩ := ofs (e := eUnit) (fun a ha => ofUnit a (q0_h2.2 a ha))
  obtain ⟨q0_l3, rfl⟩ := ofs (e := eUnitError) (fun a ha => ofUnitError a (q0_h3.2 a ha))
  exact ⟨⟨q0_f0, q0_f1, q0_l2, q0_l3⟩, rfl⟩
theorem ofBuild (u : U) (h : wt (.st 39) u) : ∃ x, u = eBuild x := by
  obtain ⟨q0_f0, rfl, q0_h0⟩ := inv_Build h
  obtain ⟨q0_l0, rfl⟩ := ofs (e := eBuiltPackage) (fun a ha => ofBuiltPackage a (q0_h0.2 a ha))
  exact ⟨⟨q0_l0⟩, rfl⟩
end Go.Eng
set_option linter.unusedVariables false
set_option linter.unusedSimpArgs false
namespace Go.Eng
open Go Go.RowKit

theorem fill_all {z : Nat} (hz : 0 < z) : ∀ (vs : List Value) (k : Nat) (pre post : List Value), (∀ v ∈ vs, v.cells.size = z) → pre.length = k * z → post.length = vs.length * z →
    Instr.fill (fun i => some (i * z, z)) (pre ++ post).toArray ((vs.zipIdx k).map fun p => (p.2, p.1)) = some (pre ++ vs.flatMap fun v => v.cells.toList).toArray
  | [], k, pre, post, _, _, hp => by
    simp only [List.length_nil, Nat.zero_mul, List.length_eq_zero_iff] at hp
    subst hp
    simp [Instr.fill]
  | v :: vs, k, pre, post, hv, h1, h2 => by
    have hvz := hv v (by simp)
    have hpl : z ≤ post.length := by rw [h2, List.length_cons, Nat.add_mul]; omega
    simp only [List.zipIdx_cons, List.map_cons]
    rw [run_fill (off := k * z) (n := z) rfl hvz (by simp only [List.size_toArray, List.length_append]; omega)]
    have e1 : (pre ++ post).toArray.toList.take (k * z) = pre := by simp [← h1]
    have e2 : (pre ++ post).toArray.toList.drop (k * z + z) = post.drop z := by
      show (pre ++ post).drop (k * z + z) = _
      rw [← h1, List.drop_append, List.drop_eq_nil_of_le (by omega), Nat.add_sub_cancel_left, List.nil_append]
    rw [e1, e2]
    have hcl : v.cells.toList.length = z := by simpa using hvz
    have := fill_all hz vs (k + 1) (pre ++ v.cells.toList) (post.drop z) (fun w hw => hv w (by simp [hw])) (by simp [h1, hvz, Nat.add_mul]) (by simp [h2, Nat.add_mul])
    rw [this]
    simp
/-- Operands seen as data, one by one. -/
inductive VDs (σ : St) : List Operand → List U → Prop
  | nil : VDs σ [] []
  | cons {x : Operand} {l : List Operand} {u : U} {us : List U} (h : VD σ.L (σ.ev x) u) (h2 : VDs σ l us) : VDs σ (x :: l) (u :: us)
theorem VDs.r {A : Amb} {S : Nat → Prop} {env : List Value} {a : Act} {w : World} {σ : St} {z : Nat} (hH : HeapR A S σ.L env w) (hf : ∀ t, SVr S σ.L env w (look σ.fr t) (a.tmps.getD t undef)) {l : List Operand} {us : List U} (h : VDs σ l us) : (∀ u ∈ us, u.sz = z) →
    l.length = us.length ∧ (∀ v ∈ l.map a.eval, v.cells.size = z) ∧ Rds S w us ((l.map a.eval).flatMap fun v => v.cells.toList) := by
  induction h with
  | nil => intro _; exact ⟨rfl, by simp, rfl⟩
  | @cons x l u us h h2 ih =>
    intro hz
    obtain ⟨k1, k2, k3⟩ := ih (fun u hu => hz u (by simp [hu]))
    have hr := VD.r hH h (Realz.ev hf hH x)
    simp only [SVr] at hr
    obtain ⟨cs, c1, c2⟩ := hr
    have hcells : (a.eval x).cells.toList = cs := by rw [c1]; exact val_cells c2
    have hcl := Rd.length _ _ c2
    rw [hz u (by simp)] at hcl
    refine ⟨by simp [k1], ?_, ?_⟩
    · intro v hv
      simp only [List.map_cons, List.mem_cons] at hv
      rcases hv with rfl | hv
      · rw [← hcl, ← hcells]; simp
      · exact k2 v hv
    · simp only [List.map_cons, List.flatMap_cons, Rds]
      exact ⟨cs, _, by rw [hcells], c2, k3⟩
section
variable {P : Program} {A : Amb} {ops : Array Oper} {K : St → Prop} {Q : Exit → St → Prop} {rest : List Oper} {σ : St} {fr : List (Nat × SV)} {L L1 L' : List LO} {N i t : Nat} {sv : SV} {o : Oper} {c : Code}
variable {ty T : TypeId} {pos : String} {af : Array Edge} {x y : Operand} {g : Option (Nat × Bool)} {dst : Option Nat} {op : Op}
theorem slit_run {e z bs : Nat} {gg : Bool} {zs : List Value} {a : Act} {w : World} {n : Nat} {ps : Array (Nat × Operand)} {l : List Operand} (hT : tyE P T = some e) (he : tyI P e = some (gg, z, bs)) (hZ : tyZ P e = some zs) (hz : (Nat.blt 0 z && Nat.ble (n * z) 16777216 && zs.length == z) = true)
    (hn : l.length = n) (h0 : 0 < n) (hps : ps.toList = (l.zipIdx 0).map fun p => (p.2, p.1)) (hv : ∀ v ∈ l.map a.eval, v.cells.size = z) :
    (execOp a.eval ⟨dst, .buildSlice T n ps, ty, pos, af, g⟩).run P w = .ok (.value (.slice (some ⟨w.heap.size, 0, none⟩) n n)) (w.alloc (.cells ((l.map a.eval).flatMap fun v => v.cells.toList).toArray e)) := by
  simp only [Bool.and_eq_true, Nat.blt_eq, beq_iff_eq] at hz
  obtain ⟨⟨hz0, hz1⟩, hz2⟩ := hz
  have hz1 := Nat.le_of_ble_eq_true hz1
  obtain ⟨zv, hrz, hzc⟩ := run_zero hZ w
  have hzs : zv.cells.size = z := by rw [← hz2, ← hzc]; simp
  have hpar : (ps.map fun p => (p.1, a.eval p.2)).toList = ((l.map a.eval).zipIdx 0).map fun p => (p.2, p.1) := by
    rw [Array.toList_map, hps, List.zipIdx_map, List.map_map, List.map_map]
    rfl
  have hfill := fill_all hz0 (l.map a.eval) 0 [] ((List.range (n * z)).map (zv.cells[· % zv.cells.size]!)) hv (by simp) (by simp [hn])
  simp only [List.nil_append] at hfill
  have hne : ¬ n * z = 0 := by
    have := Nat.mul_pos h0 hz0
    omega
  have harr : (Array.range (n * z)).map (zv.cells[· % zv.cells.size]!) = ((List.range (n * z)).map (zv.cells[· % zv.cells.size]!)).toArray := by
    apply Array.ext'
    simp
  have h2 : ¬ n * z > 2 ^ 24 := by omega
  simp only [execOp, Instr.buildSlice, Sem.run_bind, run_underlying (tyE_und hT), Result.andThen_ok, run_sizeOf he, h2, if_false, hne, hrz, Sem.run_pure, harr, hpar, hfill, newRow]
  simp
/-- A literal of several elements, of the call's own (its parts may be shared data). -/
theorem VO_la {e z bs n : Nat} {gg : Bool} [TE P T e] [TI P e gg z bs] {zs : List Value} [TZ P e zs] {us : List U} {ps : Array (Nat × Operand)} {l : List Operand} (h : VO P A ops rest ⟨(t, .sl i 0) :: fr, L', N⟩ K) (hps : ps.toList = (l.zipIdx 0).map fun p => (p.2, p.1) := by rfl)
    (hy : VDs ⟨fr, L, N⟩ l us := by (repeat (first | exact .nil | refine .cons (by ((repeat (first | exact trivial | exact rfl | exact ⟨_, rfl⟩ | refine And.intro ?_ ?_)); first | done | fail)) ?_))) (hu : (us.all fun u => u.sz == z) = true := by rfl) (hn : (l.length == n && Nat.blt 0 n) = true := by rfl)
    (hz : (Nat.blt 0 z && Nat.ble (n * z) 16777216 && zs.length == z) = true := by rfl) (ht : Nat.blt t N = true := by rfl) (hL' : Sn (.arr e z 0 us) L i L' := by repeat constructor) :
    VO P A ops (⟨some t, .buildSlice T n ps, ty, pos, af, none⟩ :: rest) ⟨fr, L, N⟩ K := by
  obtain ⟨hi, hL''⟩ := hL'.spec
  subst hi; subst hL''
  simp only [Bool.and_eq_true, beq_iff_eq, Nat.blt_eq] at hn
  have hsz : ∀ u ∈ us, u.sz = z := by simpa using hu
  refine VO_step rfl (fun S env a w hH hf hN hd => ?_) h
  obtain ⟨k1, k2, k3⟩ := VDs.r hH hf hy hsz
  have hlen := Rds.length _ _ k3
  have hszs : U.szs us = us.length * z := by
    have : ∀ (us : List U), (∀ u ∈ us, u.sz = z) → U.szs us = us.length * z := by
      intro us
      induction us with
      | nil => intro _; simp [U.szs]
      | cons u us ih => intro h; simp only [U.szs, List.length_cons, Nat.add_mul]; rw [h u (by simp), ih (fun v hv => h v (by simp [hv]))]; omega
    exact this us hsz
  have hbig : us.length ≤ 16777216 := by
    simp only [Bool.and_eq_true, Nat.blt_eq] at hz
    have h1 := Nat.le_of_ble_eq_true hz.1.2
    have h2 : n * 1 ≤ n * z := Nat.mul_le_mul_left n hz.1.1
    omega
  have hold : ∀ b, b < w.heap.size → (w.alloc (.cells ((l.map a.eval).flatMap fun v => v.cells.toList).toArray e)).heap[b]? = w.heap[b]? := fun b hb => heap_alloc_old w _ hb
  obtain ⟨hH', C⟩ := hH.new (w' := w.alloc (.cells ((l.map a.eval).flatMap fun v => v.cells.toList).toArray e)) (.arr e z 0 us) (.slice (some ⟨w.heap.size, 0, none⟩) n n) (by simp) hold rfl rfl rfl
    (fun b hb => by simp [LO.ft, blk] at hb; subst hb; simp)
    (fun C => ⟨by rw [big_eq]; omega, hsz, _, ⟨by rw [hlen, hszs], .inr ⟨w.heap.size, n, _, by rw [← k1, hn.1], Nat.zero_le _, heap_alloc_new w _, by omega, by simp [maxLen]; omega, by simp only [List.size_toArray]; rw [hlen, hszs, ← k1, hn.1], by
      rw [List.take_of_length_le]
      simp only [hlen, hszs, Nat.le_refl]⟩⟩, Rds.mono C.hS C.hw _ _ k3⟩)
  refine ⟨.value (.slice (some ⟨w.heap.size, 0, none⟩) n n), _, slit_run TE.h TI.h TZ.h hz hn.1 hn.2 hps k2, .inl ⟨_, rfl, realz_put hf hN hd ht hH' C ?_⟩⟩
  simp only [SVr]
  exact ⟨.slice (some ⟨w.heap.size, 0, none⟩) n n, .arr e z 0 us, by rw [← hH.len]; simp, by simp, Nat.le_refl _, rfl, fun _ => rfl⟩
/-- The greater of two integers. -/
theorem QR_max {T' ty' : TypeId} {k : IntKind} {m n : Int} (hx : σ.ev x = .d (.i k m) := by rfl) (hy : σ.ev y = .d (.i k n) := by rfl) : QR P σ ⟨dst, .call { callee := .builtin .max, args := #[x, y], argTypes := #[T, T'] }, ty', pos, af, g⟩ (.d (.i k (if m < n then n else m))) :=
  fun A fr' L' he _ => Quiet.pure fun S env a w hH ho => by
    have h1 := ho x (by simp [Op.operands, Call.operands])
    have h2 := ho y (by simp [Op.operands, Call.operands])
    rw [he x (by simp [Op.operands, Call.operands]), hx] at h1
    rw [he y (by simp [Op.operands, Call.operands]), hy] at h2
    have h1 := SVr.int.1 h1
    have h2 := SVr.int.1 h2
    refine ⟨.int k (if m < n then n else m), ?_, SVr.int.2 rfl⟩
    by_cases hmn : m < n <;> simp [execOp, resolve, invoke, builtin, h1, h2, Builtin.max_, Builtin.max2, hmn]
end
end Go.Eng
set_option linter.unusedVariables false
set_option linter.unusedSimpArgs false
namespace Go.Eng
open Go Go.RowKit
section
variable {P : Program} {A : Amb} {ops : Array Oper} {K : St → Prop} {Q : Exit → St → Prop} {rest : List Oper} {σ : St} {fr : List (Nat × SV)} {L L1 L' news : List LO} {N i t n : Nat} {sv : SV} {o : Oper} {c : Code}
variable {ty T : TypeId} {pos : String} {af : Array Edge} {x y : Operand} {g : Option (Nat × Bool)} {dst : Option Nat} {op : Op} {r : List (Nat × Bool)} {pf : PF} {j : Nat}
/-- A call whose result is owned. -/
theorem VO_co {f : Operand} {fi : Nat} {args : Array Operand} {at_ : Array TypeId} {dargs : List SV} {es : List TypeId} {us : List U} (hspec : SpecO P fi dargs es us) (h : VO P A ops rest ⟨(t, sv) :: fr, L', N⟩ K) (hf : (St.mk fr L N).ev f = .fn fi [] := by rfl)
    (hargs : WCs L (args.toList.map (St.mk fr L N).ev) dargs := by ((repeat (first | exact trivial | exact rfl | exact ⟨_, rfl⟩ | refine And.intro ?_ ?_)); first | done | fail)) (hn : Ln L n := by repeat constructor) (hy : OYr n es us sv news := by ((repeat constructor); first | done | fail)) (hj : Jn L news L' := by repeat constructor) (ht : Nat.blt t N = true := by rfl) :
    VO P A ops (⟨some t, .call { callee := .value f, args := args, argTypes := at_ }, ty, pos, af, none⟩ :: rest) ⟨fr, L, N⟩ K := VO_callO hf hspec hargs hn hy hj ht h
theorem VY_co {f : Operand} {fi : Nat} {args : Array Operand} {at_ : Array TypeId} {dargs : List SV} {es : List TypeId} {us : List U} (hspec : SpecO P fi dargs es us) (h : VY P A ops K r pf ⟨(t, sv) :: fr, L', N⟩)
    (hi : ops[i]? = some ⟨some t, .call { callee := .value f, args := args, argTypes := at_ }, ty, pos, af, none⟩ := by rfl) (hf : (St.mk fr L N).ev f = .fn fi [] := by rfl)
    (hargs : WCs L (args.toList.map (St.mk fr L N).ev) dargs := by ((repeat (first | exact trivial | exact rfl | exact ⟨_, rfl⟩ | refine And.intro ?_ ?_)); first | done | fail)) (hn : Ln L n := by repeat constructor) (hy : OYr n es us sv news := by ((repeat constructor); first | done | fail)) (hj : Jn L news L' := by repeat constructor) (ht : Nat.blt t N = true := by rfl)
    (hp : PfOk ops i L' pf := by (repeat (first | exact PfOk.nil | (apply PfOk.keep; focus ((repeat constructor); done)) | (apply PfOk.dep; focus kernel_rfl)))) :
    VY P A ops K ((i, false) :: r) pf ⟨fr, L, N⟩ := VY_hst hi (HSt_callO hf hspec hargs hn hy hj ht) hp h
/-- make([]T, n), owned. -/
theorem VO_mk {α : Type} {en : α → U} {es : List α → List U} {z : Nat} [E : Enc α en es z] (a0 : α) {e bs m : Nat} {gg : Bool} (hg : m ≤ 4294967296) [TE P T e] [TI P e gg z bs] {zs : List Value} [TZ P e zs] (h : VO P A ops rest ⟨(t, .sl i 0) :: fr, L', N⟩ K)
    (hx : (St.mk fr L N).ev x = .d (.i .i64 (m : Int)) := by rfl) (hy : (St.mk fr L N).ev y = .d (.i .i64 (m : Int)) := by rfl) (hzu : ZeroT (en a0) zs := by exact zeroT (by repeat constructor) (by repeat constructor)) (hz : (Nat.blt 0 z && zs.length == z) = true := by rfl) (hb : Nat.ble bs 32768 = true := by rfl)
    (ht : Nat.blt t N = true := by rfl) (hL' : Sn (.own e z 0 (es (List.replicate m a0))) L i L' := by repeat constructor) :
    VO P A ops (⟨some t, .makeSlice T x y, ty, pos, af, none⟩ :: rest) ⟨fr, L, N⟩ K := by
  have hb := Nat.le_of_ble_eq_true hb
  rw [Enc.rep (es := es)] at hL'
  refine VR_make hx hy TE.h TI.h TZ.h hz hzu (Int.natCast_nonneg m) (Int.le_refl _) (by rw [big_eq]; omega) ?_ ht (by rwa [Int.toNat_natCast]) h
  have : bs * m ≤ 32768 * 4294967296 := Nat.mul_le_mul hb hg
  omega
theorem Q_ixo {α : Type} {en : α → U} {es : List α → List U} {z : Nat} [E : Enc α en es z] {e bs ver e' : Nat} {gg : Bool} {l : List α} (k : Nat) (hk : k < l.length) [TE P T e] [TI P e gg z bs] (hx : σ.ev x = .sl j ver := by rfl) (hL : σ.L[j]? = some (.own e' z ver (es l)) := by rfl) (hy : σ.ev y = .d (.i .i64 (k : Int)) := by rfl) :
    Quiet P A σ ⟨dst, .indexAddr T x y, ty, pos, af, g⟩ (.ep j ver z k 0) := by
  have := Q_index_own (P := P) (A := A) (dst := dst) (ty := ty) (pos := pos) (af := af) (g := g) hx hL .own hy (TE.h : tyE P T = some e) (TI.h : tyI P e = some (gg, z, bs)) (Int.natCast_nonneg k) (by rw [Enc.len]; omega)
  simpa using this
/-- A whole element is stored. -/
theorem VO_st {α : Type} {en : α → U} {es : List α → List U} {z : Nat} [E : Enc α en es z] {e bs ver k : Nat} {gg : Bool} {l : List α} (a : α) {js : List Nat} (hk : k < l.length) [TI P T gg z bs] (h : VO P A ops rest ⟨fr, L', N⟩ K) (hx : (St.mk fr L N).ev x = .ep i ver z k 0 := by rfl) (hL : L[i]? = some (.own e z ver (es l)) := by rfl)
    (hy : OV L ((St.mk fr L N).ev y) (en a) js := by ((repeat constructor); first | done | fail)) (hjs : (decide js.Nodup && !js.contains i) = true := by decide) (hk1 : KR js L L1 := by repeat constructor) (hL' : St1 (.own e z ver (es (l.set k a))) i L1 L' := by repeat constructor) :
    VO P A ops (⟨none, .store T x y, ty, pos, af, none⟩ :: rest) ⟨fr, L, N⟩ K := by
  rw [Enc.set (es := es)] at hL'
  exact VR_store hx hL hy hjs TI.h (Enc.hz a) (by rw [Enc.len]; exact hk) hk1 hL' h
/-- A literal of one element, owned. -/
theorem VO_l1t {α : Type} {en : α → U} {es : List α → List U} {z : Nat} [E : Enc α en es z] (a : α) {e bs : Nat} {gg : Bool} [TE P T e] [TI P e gg z bs] {zs : List Value} [TZ P e zs] {js : List Nat} (h : VO P A ops rest ⟨(t, .sl i 0) :: fr, L', N⟩ K) (hy : OV L ((St.mk fr L N).ev x) (en a) js := by ((repeat constructor); first | done | fail)) (hjs : decide js.Nodup = true := by decide)
    (hz : (Nat.blt 0 z && Nat.blt z 16777216 && zs.length == z) = true := by rfl) (ht : Nat.blt t N = true := by rfl) (hk1 : KR js L L1 := by repeat constructor) (hL' : Sn (.own e z 0 (es [a])) L1 i L' := by repeat constructor) :
    VO P A ops (⟨some t, .buildSlice T 1 #[(0, x)], ty, pos, af, none⟩ :: rest) ⟨fr, L, N⟩ K := by
  have e1 : es [a] = [en a] := by rw [E.h]; rfl
  rw [e1] at hL'
  exact VR_slit1 hy hjs TE.h TI.h TZ.h hz (Enc.hz a) ht hk1 hL' h
theorem VY_l1t {α : Type} {en : α → U} {es : List α → List U} {z : Nat} [E : Enc α en es z] (a : α) {e bs m : Nat} {gg : Bool} [TE P T e] [TI P e gg z bs] {zs : List Value} [TZ P e zs] {js : List Nat} (h : VY P A ops K r pf ⟨(t, .sl m 0) :: fr, L', N⟩) (hi : ops[i]? = some ⟨some t, .buildSlice T 1 #[(0, x)], ty, pos, af, none⟩ := by rfl) (hy : OV L ((St.mk fr L N).ev x) (en a) js := by ((repeat constructor); first | done | fail)) (hjs : decide js.Nodup = true := by decide)
    (hz : (Nat.blt 0 z && Nat.blt z 16777216 && zs.length == z) = true := by rfl) (ht : Nat.blt t N = true := by rfl) (hk1 : KR js L L1 := by repeat constructor) (hL' : Sn (.own e z 0 (es [a])) L1 m L' := by repeat constructor)
    (hp : PfOk ops i L' pf := by (repeat (first | exact PfOk.nil | (apply PfOk.keep; focus ((repeat constructor); done)) | (apply PfOk.dep; focus kernel_rfl)))) :
    VY P A ops K ((i, false) :: r) pf ⟨fr, L, N⟩ := by
  have e1 : es [a] = [en a] := by rw [E.h]; rfl
  rw [e1] at hL'
  exact VY_hst hi (HSt_slit1 hy hjs TE.h TI.h TZ.h hz (Enc.hz a) ht hk1 hL') hp h
theorem VY_l0 {e z bs m : Nat} {gg : Bool} [TE P T e] [TI P e gg z bs] (h : VY P A ops K r pf ⟨(t, .sl m 0) :: fr, L', N⟩) (hi : ops[i]? = some ⟨some t, .buildSlice T 0 #[], ty, pos, af, none⟩ := by rfl) (ht : Nat.blt t N = true := by rfl) (hL' : Sn (.own e z 0 []) L m L' := by repeat constructor)
    (hp : PfOk ops i L' pf := by (repeat (first | exact PfOk.nil | (apply PfOk.keep; focus ((repeat constructor); done)) | (apply PfOk.dep; focus kernel_rfl)))) :
    VY P A ops K ((i, false) :: r) pf ⟨fr, L, N⟩ := VY_hst hi (HSt_slit0 TE.h TI.h ht hL') hp h
/-- Append to an owned array, in a drawn region. -/
theorem VY_ap {α : Type} {en : α → U} {es : List α → List U} {z : Nat} [E : Enc α en es z] {l l' : List α} (hg : l.length + l'.length ≤ 4294967296) {e bs ver m : Nat} {gg : Bool} [TE P T e] [TI P e gg z bs] {zs : List Value} [TZ P e zs] {js : List Nat} {T' : TypeId}
    (h : VY P A ops K r pf ⟨(t, .sl m (ver + 1)) :: fr, L', N⟩) (hi : ops[i]? = some ⟨some t, .call { callee := .builtin .append, args := #[x, y], argTypes := #[T, T] }, T', pos, af, none⟩ := by rfl) (hx : (St.mk fr L N).ev x = .sl m ver := by rfl) (hL : L[m]? = some (.own e z ver (es l)) := by rfl) (hs : SrcO L z ((St.mk fr L N).ev y) (es l') js := by first | exact .own rfl | exact .nil | exact .data (Enc.all _) (eStrs_noSl _) | exact .data (Enc.all _) (eInts_noSl _))
    (hjs : (decide js.Nodup && !js.contains m) = true := by decide) (hz : (Nat.blt 0 z && zs.length == z) = true := by rfl) (hb : Nat.ble bs 32768 = true := by rfl)
    (ht : Nat.blt t N = true := by rfl) (hk1 : KR js L L1 := by repeat constructor) (hL' : St1 (.own e z (ver + 1) (es (l ++ l'))) m L1 L' := by repeat constructor)
    (hp : PfOk ops i L' pf := by (repeat (first | exact PfOk.nil | (apply PfOk.keep; focus ((repeat constructor); done)) | (apply PfOk.dep; focus kernel_rfl)))) :
    VY P A ops K ((i, false) :: r) pf ⟨fr, L, N⟩ := by
  have h1 : (es l).length = l.length := Enc.len l
  have h2 : (es l').length = l'.length := Enc.len l'
  have hb := Nat.le_of_ble_eq_true hb
  rw [Enc.app (es := es)] at hL'
  refine VY_hst hi (HSt_append hx hL hs hjs TE.h TI.h TZ.h hz (by rw [big_eq]; omega) ?_ ht hk1 hL') hp h
  rw [h1, h2]
  exact Nat.le_trans (Nat.mul_le_mul hg hb) (by decide)
/-- The first append to nil. -/
theorem VO_ap0 {α : Type} {en : α → U} {es : List α → List U} {z : Nat} [E : Enc α en es z] {l' : List α} (hg : l'.length ≤ 4294967296) {e bs : Nat} {gg : Bool} [TE P T e] [TI P e gg z bs] {zs : List Value} [TZ P e zs] {js : List Nat} {T' : TypeId}
    (h : VO P A ops rest ⟨(t, .sl i 0) :: fr, L', N⟩ K) (hx : (St.mk fr L N).ev x = .nilsl := by rfl) (hs : SrcO L z ((St.mk fr L N).ev y) (es l') js := by first | exact .own rfl | exact .nil | exact .data (Enc.all _) (eStrs_noSl _) | exact .data (Enc.all _) (eInts_noSl _))
    (hjs : decide js.Nodup = true := by decide) (hz : (Nat.blt 0 z && zs.length == z) = true := by rfl) (hb : Nat.ble bs 32768 = true := by rfl)
    (ht : Nat.blt t N = true := by rfl) (hk1 : KR js L L1 := by repeat constructor) (hL' : Sn (.own e z 0 (es l')) L1 i L' := by repeat constructor) :
    VO P A ops (⟨some t, .call { callee := .builtin .append, args := #[x, y], argTypes := #[T, T] }, T', pos, af, none⟩ :: rest) ⟨fr, L, N⟩ K := by
  have h2 : (es l').length = l'.length := Enc.len l'
  have hb := Nat.le_of_ble_eq_true hb
  refine VR_append_nil hx hs hjs TE.h TI.h TZ.h hz (by rw [big_eq]; omega) ?_ ht hk1 hL' h
  rw [h2]
  exact Nat.le_trans (Nat.mul_le_mul hg hb) (by decide)
end
end Go.Eng
