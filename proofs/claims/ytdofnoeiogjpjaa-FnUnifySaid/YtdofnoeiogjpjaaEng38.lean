/- The engine, part 38: well-shaped data is the data of a structure. Written by a program of mine (gty2.py). -/
import Derived.Test.YtdofnoeiogjpjaaEng37
set_option linter.unusedVariables false
set_option linter.unusedSimpArgs false
namespace Go.Eng
open Go Go.RowKit
theorem ofs {α : Type} {e : α → U} {es : List α → List U} {z : Nat} [E : Enc α e es z] : ∀ {us : List U}, (∀ u ∈ us, ∃ x, u = e x) → ∃ l, us = es l
  | [], _ => ⟨[], by rw [E.h]; rfl⟩
  | u :: us, h => by
    obtain ⟨x, rfl⟩ := h u (by simp)
    obtain ⟨l, rfl⟩ := ofs (us := us) (fun v hv => h v (by simp [hv]))
    exact ⟨x :: l, by rw [E.h, E.h]; rfl⟩
theorem ofInt {u : U} (h : wt .int u) : ∃ x, u = eInt x := by obtain ⟨n, rfl, _⟩ := inv_int h; exact ⟨n, rfl⟩
theorem ofStr {u : U} (h : wt .str u) : ∃ x, u = eStr x := by obtain ⟨n, rfl, _⟩ := inv_str h; exact ⟨n, rfl⟩
theorem ofBool {u : U} (h : wt .bool u) : ∃ x, u = eBool x := by obtain ⟨n, rfl⟩ := inv_bool h; exact ⟨n, rfl⟩

theorem ofSExpr (u : U) : wt (.st 0) u → ∃ x, u = eSExpr x := by
  refine U.ind (M := fun u => wt (.st 0) u → ∃ x, u = eSExpr x) (fun u ih h => ?_) u
  obtain ⟨q0_f0, q0_f1, rfl, q0_h0, q0_h1⟩ := inv_SExpr h
  obtain ⟨q0_l1, rfl⟩ := ofs (e := eSExpr) (fun a ha => ih a (by have := nn_of_mem ha; simp only [U.nn, U.nns] at *; omega) (q0_h1.2 a ha))
  exact ⟨⟨q0_f0, q0_l1⟩, rfl⟩
theorem ofType (u : U) : wt (.st 1) u → ∃ x, u = eType x := by
  refine U.ind (M := fun u => wt (.st 1) u → ∃ x, u = eType x) (fun u ih h => ?_) u
  obtain ⟨q0_f0, q0_f1, q0_f2, rfl, q0_h0, q0_h1, q0_h2⟩ := inv_Type h
  obtain ⟨q0_l2, rfl⟩ := ofs (e := eType) (fun a ha => ih a (by have := nn_of_mem ha; simp only [U.nn, U.nns] at *; omega) (q0_h2.2 a ha))
  exact ⟨⟨q0_f0, q0_f1, q0_l2⟩, rfl⟩
theorem ofBinding (u : U) (h : wt (.st 2) u) : ∃ x, u = eBinding x := by
  obtain ⟨q0_f0, q0_f1, rfl, q0_h0, q0_h1⟩ := inv_Binding h
  obtain ⟨q0_x1, rfl⟩ := ofType q0_f1 q0_h1
  exact ⟨⟨q0_f0, q0_x1⟩, rfl⟩
theorem ofExpr (u : U) : wt (.st 4) u → ∃ x, u = eExpr x := by
  refine U.ind (M := fun u => wt (.st 4) u → ∃ x, u = eExpr x) (fun u ih h => ?_) u
  obtain ⟨q0_f0, q0_f1, q0_f2, q0_f3, q0_f4, q0_f5, q0_f6, rfl, q0_h0, q0_h1, q0_h2, q0_h3, q0_h4, q0_h5, q0_h6⟩ := inv_Expr h
  obtain ⟨q0_x4, rfl⟩ := ofType q0_f4 q0_h4
  obtain ⟨q0_l5, rfl⟩ := ofs (e := eExpr) (fun a ha => ih a (by have := nn_of_mem ha; simp only [U.nn, U.nns] at *; omega) (q0_h5.2 a ha))
  obtain ⟨q0_l6, rfl⟩ : ∃ l, q0_f6 = eArms l := ofs (e := eArm) (fun a ha => by
    have hq := q0_h6.2 a ha
    have hnn := nn_of_mem ha
    obtain ⟨q1_f0, q1_f1, q1_f2, rfl, q1_h0, q1_h1, q1_h2⟩ := inv_Arm hq
    obtain ⟨q1_l1, rfl⟩ := ofs (e := eStr) (fun a ha => ofStr (q1_h1.2 a ha))
    obtain ⟨q1_x2, rfl⟩ := ih q1_f2 (by simp only [U.nn, U.nns] at *; omega) q1_h2
    exact ⟨⟨q1_f0, q1_l1, q1_x2⟩, rfl⟩)
  exact ⟨⟨q0_f0, q0_f1, q0_f2, q0_f3, q0_x4, q0_l5, q0_l6⟩, rfl⟩
theorem ofArm (u : U) (h : wt (.st 3) u) : ∃ x, u = eArm x := by
  obtain ⟨q0_f0, q0_f1, q0_f2, rfl, q0_h0, q0_h1, q0_h2⟩ := inv_Arm h
  obtain ⟨q0_l1, rfl⟩ := ofs (e := eStr) (fun a ha => ofStr (q0_h1.2 a ha))
  obtain ⟨q0_x2, rfl⟩ := ofExpr q0_f2 q0_h2
  exact ⟨⟨q0_f0, q0_l1, q0_x2⟩, rfl⟩
theorem ofSignature (u : U) (h : wt (.st 5) u) : ∃ x, u = eSignature x := by
  obtain ⟨q0_f0, q0_f1, q0_f2, q0_f3, q0_f4, q0_f5, rfl, q0_h0, q0_h1, q0_h2, q0_h4, q0_h5⟩ := inv_Signature h
  obtain ⟨q0_l1, rfl⟩ := ofs (e := eType) (fun a ha => ofType a (q0_h1.2 a ha))
  obtain ⟨q0_x2, rfl⟩ := ofType q0_f2 q0_h2
  obtain ⟨q0_l4, rfl⟩ := ofs (e := eStr) (fun a ha => ofStr (q0_h4.2 a ha))
  obtain ⟨q0_x5, rfl⟩ := ofExpr q0_f5 q0_h5
  exact ⟨⟨q0_f0, q0_l1, q0_x2, q0_f3, q0_l4, q0_x5⟩, rfl⟩
theorem ofTrait (u : U) (h : wt (.st 6) u) : ∃ x, u = eTrait x := by
  obtain ⟨q0_f0, q0_f1, q0_f2, q0_f3, q0_f4, rfl, q0_h0, q0_h1, q0_h4⟩ := inv_Trait h
  obtain ⟨q0_l1, rfl⟩ := ofs (e := eStr) (fun a ha => ofStr (q0_h1.2 a ha))
  obtain ⟨q0_l4, rfl⟩ := ofs (e := eSignature) (fun a ha => ofSignature a (q0_h4.2 a ha))
  exact ⟨⟨q0_f0, q0_l1, q0_f2, q0_f3, q0_l4⟩, rfl⟩
theorem ofConstructor (u : U) (h : wt (.st 7) u) : ∃ x, u = eConstructor x := by
  obtain ⟨q0_f0, q0_f1, rfl, q0_h0, q0_h1⟩ := inv_Constructor h
  obtain ⟨q0_l1, rfl⟩ := ofs (e := eType) (fun a ha => ofType a (q0_h1.2 a ha))
  exact ⟨⟨q0_f0, q0_l1⟩, rfl⟩
theorem ofDataType (u : U) (h : wt (.st 8) u) : ∃ x, u = eDataType x := by
  obtain ⟨q0_f0, q0_f1, q0_f2, rfl, q0_h0, q0_h1, q0_h2⟩ := inv_DataType h
  obtain ⟨q0_l1, rfl⟩ := ofs (e := eStr) (fun a ha => ofStr (q0_h1.2 a ha))
  obtain ⟨q0_l2, rfl⟩ := ofs (e := eConstructor) (fun a ha => ofConstructor a (q0_h2.2 a ha))
  exact ⟨⟨q0_f0, q0_l1, q0_l2⟩, rfl⟩
theorem ofBound (u : U) (h : wt (.st 9) u) : ∃ x, u = eBound x := by
  obtain ⟨q0_f0, q0_f1, rfl, q0_h0, q0_h1⟩ := inv_Bound h
  obtain ⟨q0_x1, rfl⟩ := ofType q0_f1 q0_h1
  exact ⟨⟨q0_f0, q0_x1⟩, rfl⟩
theorem ofMethod (u : U) (h : wt (.st 10) u) : ∃ x, u = eMethod x := by
  obtain ⟨q0_f0, q0_f1, q0_f2, rfl, q0_h0, q0_h1, q0_h2⟩ := inv_Method h
  obtain ⟨q0_l1, rfl⟩ := ofs (e := eStr) (fun a ha => ofStr (q0_h1.2 a ha))
  obtain ⟨q0_x2, rfl⟩ := ofExpr q0_f2 q0_h2
  exact ⟨⟨q0_f0, q0_l1, q0_x2⟩, rfl⟩
theorem ofInstance (u : U) (h : wt (.st 11) u) : ∃ x, u = eInstance x := by
  obtain ⟨q0_f0, q0_f1, q0_f2, q0_f3, q0_f4, q0_f5, q0_f6, q0_f7, rfl, q0_h0, q0_h1, q0_h2, q0_h3, q0_h6, q0_h7⟩ := inv_Instance h
  obtain ⟨q0_l1, rfl⟩ := ofs (e := eStr) (fun a ha => ofStr (q0_h1.2 a ha))
  obtain ⟨q0_x2, rfl⟩ := ofType q0_f2 q0_h2
  obtain ⟨q0_l3, rfl⟩ := ofs (e := eBound) (fun a ha => ofBound a (q0_h3.2 a ha))
  obtain ⟨q0_x6, rfl⟩ := ofType q0_f6 q0_h6
  obtain ⟨q0_l7, rfl⟩ := ofs (e := eMethod) (fun a ha => ofMethod a (q0_h7.2 a ha))
  exact ⟨⟨q0_f0, q0_l1, q0_x2, q0_l3, q0_f4, q0_f5, q0_x6, q0_l7⟩, rfl⟩
theorem ofParam (u : U) (h : wt (.st 12) u) : ∃ x, u = eParam x := by
  obtain ⟨q0_f0, q0_f1, rfl, q0_h0, q0_h1⟩ := inv_Param h
  obtain ⟨q0_x1, rfl⟩ := ofType q0_f1 q0_h1
  exact ⟨⟨q0_f0, q0_x1⟩, rfl⟩
theorem ofFunction (u : U) (h : wt (.st 13) u) : ∃ x, u = eFunction x := by
  obtain ⟨q0_f0, q0_f1, q0_f2, q0_f3, q0_f4, q0_f5, rfl, q0_h0, q0_h1, q0_h2, q0_h3, q0_h4, q0_h5⟩ := inv_Function h
  obtain ⟨q0_l1, rfl⟩ := ofs (e := eStr) (fun a ha => ofStr (q0_h1.2 a ha))
  obtain ⟨q0_l2, rfl⟩ := ofs (e := eBound) (fun a ha => ofBound a (q0_h2.2 a ha))
  obtain ⟨q0_l3, rfl⟩ := ofs (e := eParam) (fun a ha => ofParam a (q0_h3.2 a ha))
  obtain ⟨q0_x4, rfl⟩ := ofType q0_f4 q0_h4
  obtain ⟨q0_x5, rfl⟩ := ofExpr q0_f5 q0_h5
  exact ⟨⟨q0_f0, q0_l1, q0_l2, q0_l3, q0_x4, q0_x5⟩, rfl⟩
theorem ofPackage (u : U) (h : wt (.st 14) u) : ∃ x, u = ePackage x := by
  obtain ⟨q0_f0, q0_f1, q0_f2, q0_f3, q0_f4, q0_f5, rfl, q0_h0, q0_h1, q0_h2, q0_h3, q0_h4, q0_h5⟩ := inv_Package h
  obtain ⟨q0_l1, rfl⟩ := ofs (e := eStr) (fun a ha => ofStr (q0_h1.2 a ha))
  obtain ⟨q0_l2, rfl⟩ := ofs (e := eTrait) (fun a ha => ofTrait a (q0_h2.2 a ha))
  obtain ⟨q0_l3, rfl⟩ := ofs (e := eDataType) (fun a ha => ofDataType a (q0_h3.2 a ha))
  obtain ⟨q0_l4, rfl⟩ := ofs (e := eInstance) (fun a ha => ofInstance a (q0_h4.2 a ha))
  obtain ⟨q0_l5, rfl⟩ := ofs (e := eFunction) (fun a ha => ofFunction a (q0_h5.2 a ha))
  exact ⟨⟨q0_f0, q0_l1, q0_l2, q0_l3, q0_l4, q0_l5⟩, rfl⟩
theorem ofProgram (u : U) (h : wt (.st 15) u) : ∃ x, u = eProgram x := by
  obtain ⟨q0_f0, rfl, q0_h0⟩ := inv_Program h
  obtain ⟨q0_l0, rfl⟩ := ofs (e := ePackage) (fun a ha => ofPackage a (q0_h0.2 a ha))
  exact ⟨⟨q0_l0⟩, rfl⟩
theorem ofInstanceRef (u : U) (h : wt (.st 16) u) : ∃ x, u = eInstanceRef x := by
  obtain ⟨q0_f0, q0_f1, rfl, q0_h0, q0_h1⟩ := inv_InstanceRef h
  exact ⟨⟨q0_f0, q0_f1⟩, rfl⟩
theorem ofAssumption (u : U) (h : wt (.st 17) u) : ∃ x, u = eAssumption x := by
  obtain ⟨q0_f0, q0_f1, q0_f2, rfl, q0_h0, q0_h1, q0_h2⟩ := inv_Assumption h
  obtain ⟨q0_x0, rfl⟩ := ofBound q0_f0 q0_h0
  obtain ⟨q0_l2, rfl⟩ := ofs (e := eInt) (fun a ha => ofInt (q0_h2.2 a ha))
  exact ⟨⟨q0_x0, q0_f1, q0_l2⟩, rfl⟩
theorem ofEvidence (u : U) : wt (.st 18) u → ∃ x, u = eEvidence x := by
  refine U.ind (M := fun u => wt (.st 18) u → ∃ x, u = eEvidence x) (fun u ih h => ?_) u
  obtain ⟨q0_f0, q0_f1, q0_f2, q0_f3, rfl, q0_h0, q0_h1, q0_h2, q0_h3⟩ := inv_Evidence h
  obtain ⟨q0_x2, rfl⟩ := ofInstanceRef q0_f2 q0_h2
  obtain ⟨q0_l3, rfl⟩ := ofs (e := eEvidence) (fun a ha => ih a (by have := nn_of_mem ha; simp only [U.nn, U.nns] at *; omega) (q0_h3.2 a ha))
  exact ⟨⟨q0_f0, q0_f1, q0_x2, q0_l3⟩, rfl⟩
theorem ofCache (u : U) (h : wt (.st 19) u) : ∃ x, u = eCache x := by
  obtain ⟨q0_f0, q0_f1, q0_f2, rfl, q0_h0, q0_h1, q0_h2⟩ := inv_Cache h
  obtain ⟨q0_l0, rfl⟩ := ofs (e := eBound) (fun a ha => ofBound a (q0_h0.2 a ha))
  obtain ⟨q0_l1, rfl⟩ := ofs (e := eInt) (fun a ha => ofInt (q0_h1.2 a ha))
  obtain ⟨q0_l2, rfl⟩ := ofs (e := eEvidence) (fun a ha => ofEvidence a (q0_h2.2 a ha))
  exact ⟨⟨q0_l0, q0_l1, q0_l2⟩, rfl⟩
theorem ofCore (u : U) : wt (.st 21) u → ∃ x, u = eCore x := by
  refine U.ind (M := fun u => wt (.st 21) u → ∃ x, u = eCore x) (fun u ih h => ?_) u
  obtain ⟨q0_f0, q0_f1, q0_f2, q0_f3, q0_f4, q0_f5, q0_f6, q0_f7, q0_f8, rfl, q0_h0, q0_h1, q0_h2, q0_h3, q0_h4, q0_h5, q0_h6, q0_h7, q0_h8⟩ := inv_Core h
  obtain ⟨q0_x4, rfl⟩ := ofType q0_f4 q0_h4
  obtain ⟨q0_l5, rfl⟩ := ofs (e := eType) (fun a ha => ofType a (q0_h5.2 a ha))
  obtain ⟨q0_l6, rfl⟩ := ofs (e := eEvidence) (fun a ha => ofEvidence a (q0_h6.2 a ha))
  obtain ⟨q0_l7, rfl⟩ := ofs (e := eCore) (fun a ha => ih a (by have := nn_of_mem ha; simp only [U.nn, U.nns] at *; omega) (q0_h7.2 a ha))
  obtain ⟨q0_l8, rfl⟩ : ∃ l, q0_f8 = eCoreArms l := ofs (e := eCoreArm) (fun a ha => by
    have hq := q0_h8.2 a ha
    have hnn := nn_of_mem ha
    obtain ⟨q1_f0, q1_f1, q1_f2, rfl, q1_h0, q1_h1, q1_h2⟩ := inv_CoreArm hq
    obtain ⟨q1_l1, rfl⟩ := ofs (e := eStr) (fun a ha => ofStr (q1_h1.2 a ha))
    obtain ⟨q1_x2, rfl⟩ := ih q1_f2 (by simp only [U.nn, U.nns] at *; omega) q1_h2
    exact ⟨⟨q1_f0, q1_l1, q1_x2⟩, rfl⟩)
  exact ⟨⟨q0_f0, q0_f1, q0_f2, q0_f3, q0_x4, q0_l5, q0_l6, q0_l7, q0_l8⟩, rfl⟩
theorem ofCoreArm (u : U) (h : wt (.st 20) u) : ∃ x, u = eCoreArm x := by
  obtain ⟨q0_f0, q0_f1, q0_f2, rfl, q0_h0, q0_h1, q0_h2⟩ := inv_CoreArm h
  obtain ⟨q0_l1, rfl⟩ := ofs (e := eStr) (fun a ha => ofStr (q0_h1.2 a ha))
  obtain ⟨q0_x2, rfl⟩ := ofCore q0_f2 q0_h2
  exact ⟨⟨q0_f0, q0_l1, q0_x2⟩, rfl⟩
theorem ofEquation (u : U) (h : wt (.st 22) u) : ∃ x, u = eEquation x := by
  obtain ⟨q0_f0, q0_f1, q0_f2, rfl, q0_h0, q0_h1, q0_h2⟩ := inv_Equation h
  obtain ⟨q0_x0, rfl⟩ := ofType q0_f0 q0_h0
  obtain ⟨q0_x1, rfl⟩ := ofType q0_f1 q0_h1
  exact ⟨⟨q0_x0, q0_x1, q0_f2⟩, rfl⟩
theorem ofObligation (u : U) (h : wt (.st 23) u) : ∃ x, u = eObligation x := by
  obtain ⟨q0_f0, q0_f1, rfl, q0_h0, q0_h1⟩ := inv_Obligation h
  obtain ⟨q0_x0, rfl⟩ := ofBound q0_f0 q0_h0
  exact ⟨⟨q0_x0, q0_f1⟩, rfl⟩
theorem ofInferState (u : U) (h : wt (.st 24) u) : ∃ x, u = eInferState x := by
  obtain ⟨q0_f0, q0_f1, q0_f2, q0_f3, q0_f4, q0_f5, q0_f6, q0_f7, rfl, q0_h0, q0_h1, q0_h2, q0_h3, q0_h4, q0_h5, q0_h6, q0_h7⟩ := inv_InferState h
  obtain ⟨q0_l3, rfl⟩ := ofs (e := eBinding) (fun a ha => ofBinding a (q0_h3.2 a ha))
  obtain ⟨q0_l4, rfl⟩ := ofs (e := eEquation) (fun a ha => ofEquation a (q0_h4.2 a ha))
  obtain ⟨q0_l5, rfl⟩ := ofs (e := eObligation) (fun a ha => ofObligation a (q0_h5.2 a ha))
  exact ⟨⟨q0_f0, q0_f1, q0_f2, q0_l3, q0_l4, q0_l5, q0_f6, q0_f7⟩, rfl⟩
theorem ofUnit (u : U) (h : wt (.st 25) u) : ∃ x, u = eUnit x := by
  obtain ⟨q0_f0, q0_f1, q0_f2, q0_f3, q0_f4, q0_f5, q0_f6, q0_f7, q0_f8, rfl, q0_h0, q0_h1, q0_h2, q0_h3, q0_h4, q0_h5, q0_h6, q0_h7, q0_h8⟩ := inv_Unit h
  obtain ⟨q0_l4, rfl⟩ := ofs (e := eStr) (fun a ha => ofStr (q0_h4.2 a ha))
  obtain ⟨q0_l5, rfl⟩ := ofs (e := eBound) (fun a ha => ofBound a (q0_h5.2 a ha))
  obtain ⟨q0_l6, rfl⟩ := ofs (e := eParam) (fun a ha => ofParam a (q0_h6.2 a ha))
  obtain ⟨q0_x7, rfl⟩ := ofType q0_f7 q0_h7
  obtain ⟨q0_x8, rfl⟩ := ofCore q0_f8 q0_h8
  exact ⟨⟨q0_f0, q0_f1, q0_f2, q0_f3, q0_l4, q0_l5, q0_l6, q0_x7, q0_x8⟩, rfl⟩
theorem ofDictionary (u : U) : wt (.st 26) u → ∃ x, u = eDictionary x := by
  refine U.ind (M := fun u => wt (.st 26) u → ∃ x, u = eDictionary x) (fun u ih h => ?_) u
  obtain ⟨q0_f0, q0_f1, q0_f2, q0_f3, rfl, q0_h0, q0_h1, q0_h2, q0_h3⟩ := inv_Dictionary h
  obtain ⟨q0_x1, rfl⟩ := ofInstanceRef q0_f1 q0_h1
  obtain ⟨q0_l2, rfl⟩ := ofs (e := eInt) (fun a ha => ofInt (q0_h2.2 a ha))
  obtain ⟨q0_l3, rfl⟩ := ofs (e := eDictionary) (fun a ha => ih a (by have := nn_of_mem ha; simp only [U.nn, U.nns] at *; omega) (q0_h3.2 a ha))
  exact ⟨⟨q0_f0, q0_x1, q0_l2, q0_l3⟩, rfl⟩
theorem ofValue (u : U) : wt (.st 27) u → ∃ x, u = eValue x := by
  refine U.ind (M := fun u => wt (.st 27) u → ∃ x, u = eValue x) (fun u ih h => ?_) u
  obtain ⟨q0_f0, q0_f1, q0_f2, q0_f3, q0_f4, rfl, q0_h0, q0_h1, q0_h2, q0_h3, q0_h4⟩ := inv_Value h
  obtain ⟨q0_x3, rfl⟩ := ofDictionary q0_f3 q0_h3
  obtain ⟨q0_l4, rfl⟩ := ofs (e := eValue) (fun a ha => ih a (by have := nn_of_mem ha; simp only [U.nn, U.nns] at *; omega) (q0_h4.2 a ha))
  exact ⟨⟨q0_f0, q0_f1, q0_f2, q0_x3, q0_l4⟩, rfl⟩
theorem ofSpecialization (u : U) (h : wt (.st 28) u) : ∃ x, u = eSpecialization x := by
  obtain ⟨q0_f0, q0_f1, q0_f2, q0_f3, rfl, q0_h0, q0_h1, q0_h2, q0_h3⟩ := inv_Specialization h
  obtain ⟨q0_l1, rfl⟩ := ofs (e := eType) (fun a ha => ofType a (q0_h1.2 a ha))
  obtain ⟨q0_l2, rfl⟩ := ofs (e := eStr) (fun a ha => ofStr (q0_h2.2 a ha))
  obtain ⟨q0_x3, rfl⟩ := ofCore q0_f3 q0_h3
  exact ⟨⟨q0_f0, q0_l1, q0_l2, q0_x3⟩, rfl⟩
theorem ofMethodEntry (u : U) (h : wt (.st 29) u) : ∃ x, u = eMethodEntry x := by
  obtain ⟨q0_f0, q0_f1, q0_f2, rfl, q0_h0, q0_h1, q0_h2⟩ := inv_MethodEntry h
  exact ⟨⟨q0_f0, q0_f1, q0_f2⟩, rfl⟩
theorem ofMethodTable (u : U) (h : wt (.st 30) u) : ∃ x, u = eMethodTable x := by
  obtain ⟨q0_f0, q0_f1, q0_f2, rfl, q0_h0, q0_h1, q0_h2⟩ := inv_MethodTable h
  obtain ⟨q0_x1, rfl⟩ := ofType q0_f1 q0_h1
  obtain ⟨q0_l2, rfl⟩ := ofs (e := eMethodEntry) (fun a ha => ofMethodEntry a (q0_h2.2 a ha))
  exact ⟨⟨q0_f0, q0_x1, q0_l2⟩, rfl⟩
theorem ofMonoProgram (u : U) (h : wt (.st 31) u) : ∃ x, u = eMonoProgram x := by
  obtain ⟨q0_f0, q0_f1, rfl, q0_h0, q0_h1⟩ := inv_MonoProgram h
  obtain ⟨q0_l0, rfl⟩ := ofs (e := eSpecialization) (fun a ha => ofSpecialization a (q0_h0.2 a ha))
  obtain ⟨q0_l1, rfl⟩ := ofs (e := eMethodTable) (fun a ha => ofMethodTable a (q0_h1.2 a ha))
  exact ⟨⟨q0_l0, q0_l1⟩, rfl⟩
theorem ofInstr (u : U) (h : wt (.st 32) u) : ∃ x, u = eInstr x := by
  obtain ⟨q0_f0, q0_f1, q0_f2, q0_f3, q0_f4, rfl, q0_h0, q0_h1, q0_h2, q0_h3, q0_h4⟩ := inv_Instr h
  exact ⟨⟨q0_f0, q0_f1, q0_f2, q0_f3, q0_f4⟩, rfl⟩
theorem ofCode (u : U) (h : wt (.st 33) u) : ∃ x, u = eCode x := by
  obtain ⟨q0_f0, q0_f1, rfl, q0_h0, q0_h1⟩ := inv_Code h
  obtain ⟨q0_l1, rfl⟩ := ofs (e := eInstr) (fun a ha => ofInstr a (q0_h1.2 a ha))
  exact ⟨⟨q0_f0, q0_l1⟩, rfl⟩
theorem ofMachine (u : U) (h : wt (.st 34) u) : ∃ x, u = eMachine x := by
  obtain ⟨q0_f0, q0_f1, rfl, q0_h0, q0_h1⟩ := inv_Machine h
  obtain ⟨q0_l0, rfl⟩ := ofs (e := eCode) (fun a ha => ofCode a (q0_h0.2 a ha))
  obtain ⟨q0_l1, rfl⟩ := ofs (e := eMethodTable) (fun a ha => ofMethodTable a (q0_h1.2 a ha))
  exact ⟨⟨q0_l0, q0_l1⟩, rfl⟩
theorem ofFrame (u : U) (h : wt (.st 35) u) : ∃ x, u = eFrame x := by
  obtain ⟨q0_f0, q0_f1, q0_f2, q0_f3, rfl, q0_h0, q0_h1, q0_h2, q0_h3⟩ := inv_Frame h
  obtain ⟨q0_l3, rfl⟩ := ofs (e := eValue) (fun a ha => ofValue a (q0_h3.2 a ha))
  exact ⟨⟨q0_f0, q0_f1, q0_f2, q0_l3⟩, rfl⟩
theorem ofVM (u : U) (h : wt (.st 36) u) : ∃ x, u = eVM x := by
  obtain ⟨q0_f0, q0_f1, q0_f2, q0_f3, q0_f4, rfl, q0_h0, q0_h1, q0_h2, q0_h3⟩ := inv_VM h
  obtain ⟨q0_l0, rfl⟩ := ofs (e := eValue) (fun a ha => ofValue a (q0_h0.2 a ha))
  obtain ⟨q0_l1, rfl⟩ := ofs (e := eFrame) (fun a ha => ofFrame a (q0_h1.2 a ha))
  exact ⟨⟨q0_l0, q0_l1, q0_f2, q0_f3, q0_f4⟩, rfl⟩
theorem ofUnitError (u : U) (h : wt (.st 37) u) : ∃ x, u = eUnitError x := by
  obtain ⟨q0_f0, q0_f1, q0_f2, q0_f3, q0_f4, q0_f5, rfl, q0_h0, q0_h1, q0_h2, q0_h3, q0_h4, q0_h5⟩ := inv_UnitError h
  exact ⟨⟨q0_f0, q0_f1, q0_f2, q0_f3, q0_f4, q0_f5⟩, rfl⟩
theorem ofBuiltPackage (u : U) (h : wt (.st 38) u) : ∃ x, u = eBuiltPackage x := by
  obtain ⟨q0_f0, q0_f1, q0_f2, q0_f3, rfl, q0_h0, q0_h1, q0_h2, q0_h3⟩ := inv_BuiltPackage h
  obtain ⟨q0_l2, rfl⟩ := ofs (e := eUnit) (fun a ha => ofUnit a (q0_h2.2 a ha))
  obtain ⟨q0_l3, rfl⟩ := ofs (e := eUnitError) (fun a ha => ofUnitError a (q0_h3.2 a ha))
  exact ⟨⟨q0_f0, q0_f1, q0_l2, q0_l3⟩, rfl⟩
theorem ofBuild (u : U) (h : wt (.st 39) u) : ∃ x, u = eBuild x := by
  obtain ⟨q0_f0, rfl, q0_h0⟩ := inv_Build h
  obtain ⟨q0_l0, rfl⟩ := ofs (e := eBuiltPackage) (fun a ha => ofBuiltPackage a (q0_h0.2 a ha))
  exact ⟨⟨q0_l0⟩, rfl⟩
end Go.Eng
