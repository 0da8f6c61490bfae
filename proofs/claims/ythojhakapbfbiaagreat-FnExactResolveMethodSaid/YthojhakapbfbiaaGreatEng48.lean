/- The engine, part 38: well-shaped data is the data of a structure. Written by a program of mine (gty2.py). -/
import Derived.Test.YthojhakapbfbiaaGreatEng37
set_option linter.unusedVariables false
set_option linter.unusedSimpArgs false
namespace Go.Eng
open Go Go.RowKit
theorem ofs {α : Type} {e : α → U} {es : List α → List U} {z : Nat} [E : Enc α e es z] : ∀ {us : List U}, (∀ u ∈ us, ∃ x, u = e x) → ∃ l, us = es l
  | [], _ => ⟨[], by rw [E.h]; rfl⟩
  | u :: us, h => by
    obtain ⟨x, rfl⟩ := h u (by simp)
    obtain ⟨l, rfl⟩ := ofs (us := us) (fun v hv => h v (by simp [hv]))
    exact ⟨x :: l, by rw [E.h, E.h]; rfl⟩
theorem ofInt {u : U} (h : wt .int u) : ∃ x, u = eInt x := by obtain ⟨n, rfl, _⟩ := inv_int h; exact ⟨n, rfl⟩
theorem ofStr {u : U} (h : wt .str u) : ∃ x, u = eStr x := by obtain ⟨n, rfl, _⟩ := inv_str h; exact ⟨n, rfl⟩
theorem ofType (u : U) : wt (.st 1) u → ∃ x, u = eType x := by
  refine U.ind (M := fun u => wt (.st 1) u → ∃ x, u = eType x) (fun u ih h => ?_) u
  obtain ⟨q0_f0, q0_f1, q0_f2, rfl, q0_h0, q0_h1, q0_h2⟩ := inv_Type h
  obtain ⟨q0_l2, rfl⟩ := ofs (e := eType) (fun a ha => ih a (by have := nn_of_mem ha; simp only [U.nn, U.nns] at *; omega) (q0_h2.2 a ha))
  exact ⟨⟨q0_f0, q0_f1, q0_l2⟩, rfl⟩
theorem ofExpr (u : U) : wt (.st 4) u → ∃ x, u = eExpr x := by
  refine U.ind (M := fun u => wt (.st 4) u → ∃ x, u = eExpr x) (fun u ih h => ?_) u
  obtain ⟨q0_f0, q0_f1, q0_f2, q0_f3, q0_f4, q0_f5, q0_f6, rfl, q0_h0, q0_h1, q0_h2, q0_h3, q0_h4, q0_h5, q0_h6⟩ := inv_Expr h
  obtain ⟨q0_x4, rfl⟩ := ofType q0_f4 q0_h4
  obtain ⟨q0_l5, rfl⟩ := ofs (e := eExpr) (fun a ha => ih a (by have := nn_of_mem ha; simp only [U.nn, U.nns] at *; omega) (q0_h5.2 a ha))
  obtain ⟨q0_l6, rfl⟩ : ∃ l, q0_f6 = eArms l := ofs (e := eArm) (fun a ha => by
    have hq := q0_h6.2 a ha
    have hnn := nn_of_mem ha
    obtain ⟨q1_f0, q1_f1, q1_f2, rfl, q1_h0, q1_h1, q1_h2⟩ := inv_Arm hq
    obtain ⟨q1_l1, rfl⟩ := ofs (e := eStr) (fun a ha => ofStr (q1_h1.2 a ha))
    obtain ⟨q1_x2, rfl⟩ := ih q1_f2 (by simp only [U.nn, U.nns] at *; omega) q1_h2
    exact ⟨⟨q1_f0, q1_l1, q1_x2⟩, rfl⟩)
  exact ⟨⟨q0_f0, q0_f1, q0_f2, q0_f3, q0_x4, q0_l5, q0_l6⟩, rfl⟩
theorem ofSignature (u : U) (h : wt (.st 5) u) : ∃ x, u = eSignature x := by
  obtain ⟨q0_f0, q0_f1, q0_f2, q0_f3, q0_f4, q0_f5, rfl, q0_h0, q0_h1, q0_h2, q0_h4, q0_h5⟩ := inv_Signature h
  obtain ⟨q0_l1, rfl⟩ := ofs (e := eType) (fun a ha => ofType a (q0_h1.2 a ha))
  obtain ⟨q0_x2, rfl⟩ := ofType q0_f2 q0_h2
  obtain ⟨q0_l4, rfl⟩ := ofs (e := eStr) (fun a ha => ofStr (q0_h4.2 a ha))
  obtain ⟨q0_x5, rfl⟩ := ofExpr q0_f5 q0_h5
  exact ⟨⟨q0_f0, q0_l1, q0_x2, q0_f3, q0_l4, q0_x5⟩, rfl⟩
theorem ofTrait (u : U) (h : wt (.st 6) u) : ∃ x, u = eTrait x := by
  obtain ⟨q0_f0, q0_f1, q0_f2, q0_f3, q0_f4, rfl, q0_h0, q0_h1, q0_h4⟩ := inv_Trait h
  obtain ⟨q0_l1, rfl⟩ := ofs (e := eStr) (fun a ha => ofStr (q0_h1.2 a ha))
  obtain ⟨q0_l4, rfl⟩ := ofs (e := eSignature) (fun a ha => ofSignature a (q0_h4.2 a ha))
  exact ⟨⟨q0_f0, q0_l1, q0_f2, q0_f3, q0_l4⟩, rfl⟩
theorem ofConstructor (u : U) (h : wt (.st 7) u) : ∃ x, u = eConstructor x := by
  obtain ⟨q0_f0, q0_f1, rfl, q0_h0, q0_h1⟩ := inv_Constructor h
  obtain ⟨q0_l1, rfl⟩ := ofs (e := eType) (fun a ha => ofType a (q0_h1.2 a ha))
  exact ⟨⟨q0_f0, q0_l1⟩, rfl⟩
theorem ofDataType (u : U) (h : wt (.st 8) u) : ∃ x, u = eDataType x := by
  obtain ⟨q0_f0, q0_f1, q0_f2, rfl, q0_h0, q0_h1, q0_h2⟩ := inv_DataType h
  obtain ⟨q0_l1, rfl⟩ := ofs (e := eStr) (fun a ha => ofStr (q0_h1.2 a ha))
  obtain ⟨q0_l2, rfl⟩ := ofs (e := eConstructor) (fun a ha => ofConstructor a (q0_h2.2 a ha))
  exact ⟨⟨q0_f0, q0_l1, q0_l2⟩, rfl⟩
theorem ofBound (u : U) (h : wt (.st 9) u) : ∃ x, u = eBound x := by
  obtain ⟨q0_f0, q0_f1, rfl, q0_h0, q0_h1⟩ := inv_Bound h
  obtain ⟨q0_x1, rfl⟩ := ofType q0_f1 q0_h1
  exact ⟨⟨q0_f0, q0_x1⟩, rfl⟩
theorem ofMethod (u : U) (h : wt (.st 10) u) : ∃ x, u = eMethod x := by
  obtain ⟨q0_f0, q0_f1, q0_f2, rfl, q0_h0, q0_h1, q0_h2⟩ := inv_Method h
  obtain ⟨q0_l1, rfl⟩ := ofs (e := eStr) (fun a ha => ofStr (q0_h1.2 a ha))
  obtain ⟨q0_x2, rfl⟩ := ofExpr q0_f2 q0_h2
  exact ⟨⟨q0_f0, q0_l1, q0_x2⟩, rfl⟩
theorem ofInstance (u : U) (h : wt (.st 11) u) : ∃ x, u = eInstance x := by
  obtain ⟨q0_f0, q0_f1, q0_f2, q0_f3, q0_f4, q0_f5, q0_f6, q0_f7, rfl, q0_h0, q0_h1, q0_h2, q0_h3, q0_h6, q0_h7⟩ := inv_Instance h
  obtain ⟨q0_l1, rfl⟩ := ofs (e := eStr) (fun a ha => ofStr (q0_h1.2 a ha))
  obtain ⟨q0_x2, rfl⟩ := ofType q0_f2 q0_h2
  obtain ⟨q0_l3, rfl⟩ := ofs (e := eBound) (fun a ha => ofBound a (q0_h3.2 a ha))
  obtain ⟨q0_x6, rfl⟩ := ofType q0_f6 q0_h6
  obtain ⟨q0_l7, rfl⟩ := ofs (e := eMethod) (fun a ha => ofMethod a (q0_h7.2 a ha))
  exact ⟨⟨q0_f0, q0_l1, q0_x2, q0_l3, q0_f4, q0_f5, q0_x6, q0_l7⟩, rfl⟩
theorem ofParam (u : U) (h : wt (.st 12) u) : ∃ x, u = eParam x := by
  obtain ⟨q0_f0, q0_f1, rfl, q0_h0, q0_h1⟩ := inv_Param h
  obtain ⟨q0_x1, rfl⟩ := ofType q0_f1 q0_h1
  exact ⟨⟨q0_f0, q0_x1⟩, rfl⟩
theorem ofFunction (u : U) (h : wt (.st 13) u) : ∃ x, u = eFunction x := by
  obtain ⟨q0_f0, q0_f1, q0_f2, q0_f3, q0_f4, q0_f5, rfl, q0_h0, q0_h1, q0_h2, q0_h3, q0_h4, q0_h5⟩ := inv_Function h
  obtain ⟨q0_l1, rfl⟩ := ofs (e := eStr) (fun a ha => ofStr (q0_h1.2 a ha))
  obtain ⟨q0_l2, rfl⟩ := ofs (e := eBound) (fun a ha => ofBound a (q0_h2.2 a ha))
  obtain ⟨q0_l3, rfl⟩ := ofs (e := eParam) (fun a ha => ofParam a (q0_h3.2 a ha))
  obtain ⟨q0_x4, rfl⟩ := ofType q0_f4 q0_h4
  obtain ⟨q0_x5, rfl⟩ := ofExpr q0_f5 q0_h5
  exact ⟨⟨q0_f0, q0_l1, q0_l2, q0_l3, q0_x4, q0_x5⟩, rfl⟩
theorem ofPackage (u : U) (h : wt (.st 14) u) : ∃ x, u = ePackage x := by
  obtain ⟨q0_f0, q0_f1, q0_f2, q0_f3, q0_f4, q0_f5, rfl, q0_h0, q0_h1, q0_h2, q0_h3, q0_h4, q0_h5⟩ := inv_Package h
  obtain ⟨q0_l1, rfl⟩ := ofs (e := eStr) (fun a ha => ofStr (q0_h1.2 a ha))
  obtain ⟨q0_l2, rfl⟩ := ofs (e := eTrait) (fun a ha => ofTrait a (q0_h2.2 a ha))
  obtain ⟨q0_l3, rfl⟩ := ofs (e := eDataType) (fun a ha => ofDataType a (q0_h3.2 a ha))
  obtain ⟨q0_l4, rfl⟩ := ofs (e := eInstance) (fun a ha => ofInstance a (q0_h4.2 a ha))
  obtain ⟨q0_l5, rfl⟩ := ofs (e := eFunction) (fun a ha => ofFunction a (q0_h5.2 a ha))
  exact ⟨⟨q0_f0, q0_l1, q0_l2, q0_l3, q0_l4, q0_l5⟩, rfl⟩
theorem ofProgram (u : U) (h : wt (.st 15) u) : ∃ x, u = eProgram x := by
  obtain ⟨q0_f0, rfl, q0_h0⟩ := inv_Program h
  obtain ⟨q0_l0, rfl⟩ := ofs (e := ePackage) (fun a ha => ofPackage a (q0_h0.2 a ha))
  exact ⟨⟨q0_l0⟩, rfl⟩
theorem ofInstanceRef (u : U) (h : wt (.st 16) u) : ∃ x, u = eInstanceRef x := by
  obtain ⟨q0_f0, q0_f1, rfl, q0_h0, q0_h1⟩ := inv_InstanceRef h
  exact ⟨⟨q0_f0, q0_f1⟩, rfl⟩
theorem ofEvidence (u : U) : wt (.st 18) u → ∃ x, u = eEvidence x := by
  refine U.ind (M := fun u => wt (.st 18) u → ∃ x, u = eEvidence x) (fun u ih h => ?_) u
  obtain ⟨q0_f0, q0_f1, q0_f2, q0_f3, rfl, q0_h0, q0_h1, q0_h2, q0_h3⟩ := inv_Evidence h
  obtain ⟨q0_x2, rfl⟩ := ofInstanceRef q0_f2 q0_h2
  obtain ⟨q0_l3, rfl⟩ := ofs (e := eEvidence) (fun a ha => ih a (by have := nn_of_mem ha; simp only [U.nn, U.nns] at *; omega) (q0_h3.2 a ha))
  exact ⟨⟨q0_f0, q0_f1, q0_x2, q0_l3⟩, rfl⟩
theorem ofCore (u : U) : wt (.st 21) u → ∃ x, u = eCore x := by
  refine U.ind (M := fun u => wt (.st 21) u → ∃ x, u = eCore x) (fun u ih h => ?_) u
  obtain ⟨q0_f0, q0_f1, q0_f2, q0_f3, q0_f4, q0_f5, q0_f6, q0_f7, q0_f8, rfl, q0_h0, q0_h1, q0_h2, q0_h3, q0_h4, q0_h5, q0_h6, q0_h7, q0_h8⟩ := inv_Core h
  obtain ⟨q0_x4, rfl⟩ := ofType q0_f4 q0_h4
  obtain ⟨q0_l5, rfl⟩ := ofs (e := eType) (fun a ha => ofType a (q0_h5.2 a ha))
  obtain ⟨q0_l6, rfl⟩ := ofs (e := eEvidence) (fun a ha => ofEvidence a (q0_h6.2 a ha))
  obtain ⟨q0_l7, rfl⟩ := ofs (e := eCore) (fun a ha => ih a (by have := nn_of_mem ha; simp only [U.nn, U.nns] at *; omega) (q0_h7.2 a ha))
  obtain ⟨q0_l8, rfl⟩ : ∃ l, q0_f8 = eCoreArms l := ofs (e := eCoreArm) (fun a ha => by
    have hq := q0_h8.2 a ha
    have hnn := nn_of_mem ha
    obtain ⟨q1_f0, q1_f1, q1_f2, rfl, q1_h0, q1_h1, q1_h2⟩ := inv_CoreArm hq
    obtain ⟨q1_l1, rfl⟩ := ofs (e := eStr) (fun a ha => ofStr (q1_h1.2 a ha))
    obtain ⟨q1_x2, rfl⟩ := ih q1_f2 (by simp only [U.nn, U.nns] at *; omega) q1_h2
    exact ⟨⟨q1_f0, q1_l1, q1_x2⟩, rfl⟩)
  exact ⟨⟨q0_f0, q0_f1, q0_f2, q0_f3, q0_x4, q0_l5, q0_l6, q0_l7, q0_l8⟩, rfl⟩
theorem ofUnit (u : U) (h : wt (.st 25) u) : ∃ x, u = eUnit x := by
  obtain ⟨q0_f0, q0_f1, q0_f2, q0_f3, q0_f4, q0_f5, q0_f6, q0_f7, q0_f8, rfl, q0_h0, q0_h1, q0_h2, q0_h3, q0_h4, q0_h5, q0_h6, q0_h7, q0_h8⟩ := inv_Unit h
  obtain ⟨q0_l4, rfl⟩ := ofs (e := eStr) (fun a ha => ofStr (q0_h4.2 a ha))
  obtain ⟨q0_l5, rfl⟩ := ofs (e := eBound) (fun a ha => ofBound a (q0_h5.2 a ha))
  obtain ⟨q0_l6, rfl⟩ := ofs (e := eParam) (fun a ha => ofParam a (q0_h6.2 a ha))
  obtain ⟨q0_x7, rfl⟩ := ofType q0_f7 q0_h7
  obtain ⟨q0_x8, rfl⟩ := ofCore q0_f8 q0_h8
  exact ⟨⟨q0_f0, q0_f1, q0_f2, q0_f3, q0_l4, q0_l5, q0_l6, q0_x7, q0_x8⟩, rfl⟩
theorem ofDictionary (u : U) : wt (.st 26) u → ∃ x, u = eDictionary x := by
  refine U.ind (M := fun u => wt (.st 26) u → ∃ x, u = eDictionary x) (fun u ih h => ?_) u
  obtain ⟨q0_f0, q0_f1, q0_f2, q0_f3, rfl, q0_h0, q0_h1, q0_h2, q0_h3⟩ := inv_Dictionary h
  obtain ⟨q0_x1, rfl⟩ := ofInstanceRef q0_f1 q0_h1
  obtain ⟨q0_l2, rfl⟩ := ofs (e := eInt) (fun a ha => ofInt (q0_h2.2 a ha))
  obtain ⟨q0_l3, rfl⟩ := ofs (e := eDictionary) (fun a ha => ih a (by have := nn_of_mem ha; simp only [U.nn, U.nns] at *; omega) (q0_h3.2 a ha))
  exact ⟨⟨q0_f0, q0_x1, q0_l2, q0_l3⟩, rfl⟩
end Go.Eng
set_option linter.unusedVariables false
set_option linter.unusedSimpArgs false
namespace Go.Eng
open Go Go.RowKit
section
variable {P : Program} {A : Amb} {ops : Array Oper} {K : St → Prop} {Q : Exit → St → Prop} {rest : List Oper} {σ : St} {fr : List (Nat × SV)} {L L1 L' : List LO} {N i t : Nat} {sv : SV} {o : Oper} {c : Code}
variable {ty T : TypeId} {pos : String} {af : Array Edge} {x y : Operand} {g : Option (Nat × Bool)} {dst : Option Nat} {op : Op}
end
end Go.Eng
set_option linter.unusedVariables false
set_option linter.unusedSimpArgs false
namespace Go.Eng
open Go Go.RowKit
section
variable {P : Program} {A : Amb} {ops : Array Oper} {K : St → Prop} {Q : Exit → St → Prop} {rest : List Oper} {σ : St} {fr : List (Nat × SV)} {L L1 L' news : List LO} {N i t n : Nat} {sv : SV} {o : Oper} {c : Code}
variable {ty T : TypeId} {pos : String} {af : Array Edge} {x y : Operand} {g : Option (Nat × Bool)} {dst : Option Nat} {op : Op} {r : List (Nat × Bool)} {pf : PF} {j : Nat}
/-- A call whose result is owned. -/
theorem VO_co {f : Operand} {fi : Nat} {args : Array Operand} {at_ : Array TypeId} {dargs : List SV} {es : List TypeId} {us : List U} (hspec : SpecO P fi dargs es us) (h : VO P A ops rest ⟨(t, sv) :: fr, L', N⟩ K) (hf : (St.mk fr L N).ev f = .fn fi [] := by rfl)
    (hargs : WCs L (args.toList.map (St.mk fr L N).ev) dargs := by ((repeat (first | exact trivial | exact rfl | exact ⟨_, rfl⟩ | refine And.intro ?_ ?_)); first | done | fail)) (hn : Ln L n := by repeat constructor) (hy : OYr n es us sv news := by ((repeat constructor); first | done | fail)) (hj : Jn L news L' := by repeat constructor) (ht : Nat.blt t N = true := by rfl) :
    VO P A ops (⟨some t, .call { callee := .value f, args := args, argTypes := at_ }, ty, pos, af, none⟩ :: rest) ⟨fr, L, N⟩ K := VO_callO hf hspec hargs hn hy hj ht h
/-- make([]T, n), owned. -/
theorem VO_mk {α : Type} {en : α → U} {es : List α → List U} {z : Nat} [E : Enc α en es z] (a0 : α) {e bs m : Nat} {gg : Bool} (hg : m ≤ 4294967296) [TE P T e] [TI P e gg z bs] {zs : List Value} [TZ P e zs] (h : VO P A ops rest ⟨(t, .sl i 0) :: fr, L', N⟩ K)
    (hx : (St.mk fr L N).ev x = .d (.i .i64 (m : Int)) := by rfl) (hy : (St.mk fr L N).ev y = .d (.i .i64 (m : Int)) := by rfl) (hzu : ZeroT (en a0) zs := by exact zeroT (by repeat constructor) (by repeat constructor)) (hz : (Nat.blt 0 z && zs.length == z) = true := by rfl) (hb : Nat.ble bs 32768 = true := by rfl)
    (ht : Nat.blt t N = true := by rfl) (hL' : Sn (.own e z 0 (es (List.replicate m a0))) L i L' := by repeat constructor) :
    VO P A ops (⟨some t, .makeSlice T x y, ty, pos, af, none⟩ :: rest) ⟨fr, L, N⟩ K := by
  have hb := Nat.le_of_ble_eq_true hb
  rw [Enc.rep (es := es)] at hL'
  refine VR_make hx hy TE.h TI.h TZ.h hz hzu (Int.natCast_nonneg m) (Int.le_refl _) (by rw [big_eq]; omega) ?_ ht (by rwa [Int.toNat_natCast]) h
  have : bs * m ≤ 32768 * 4294967296 := Nat.mul_le_mul hb hg
  omega
theorem Q_ixo {α : Type} {en : α → U} {es : List α → List U} {z : Nat} [E : Enc α en es z] {e bs ver e' : Nat} {gg : Bool} {l : List α} (k : Nat) (hk : k < l.length) [TE P T e] [TI P e gg z bs] (hx : σ.ev x = .sl j ver := by rfl) (hL : σ.L[j]? = some (.own e' z ver (es l)) := by rfl) (hy : σ.ev y = .d (.i .i64 (k : Int)) := by rfl) :
    Quiet P A σ ⟨dst, .indexAddr T x y, ty, pos, af, g⟩ (.ep j ver z k 0) := by
  have := Q_index_own (P := P) (A := A) (dst := dst) (ty := ty) (pos := pos) (af := af) (g := g) hx hL .own hy (TE.h : tyE P T = some e) (TI.h : tyI P e = some (gg, z, bs)) (Int.natCast_nonneg k) (by rw [Enc.len]; omega)
  simpa using this
/-- A whole element is stored. -/
theorem VO_st {α : Type} {en : α → U} {es : List α → List U} {z : Nat} [E : Enc α en es z] {e bs ver k : Nat} {gg : Bool} {l : List α} (a : α) {js : List Nat} (hk : k < l.length) [TI P T gg z bs] (h : VO P A ops rest ⟨fr, L', N⟩ K) (hx : (St.mk fr L N).ev x = .ep i ver z k 0 := by rfl) (hL : L[i]? = some (.own e z ver (es l)) := by rfl)
    (hy : OV L ((St.mk fr L N).ev y) (en a) js := by ((repeat constructor); first | done | fail)) (hjs : (decide js.Nodup && !js.contains i) = true := by decide) (hk1 : KR js L L1 := by repeat constructor) (hL' : St1 (.own e z ver (es (l.set k a))) i L1 L' := by repeat constructor) :
    VO P A ops (⟨none, .store T x y, ty, pos, af, none⟩ :: rest) ⟨fr, L, N⟩ K := by
  rw [Enc.set (es := es)] at hL'
  exact VR_store hx hL hy hjs TI.h (Enc.hz a) (by rw [Enc.len]; exact hk) hk1 hL' h
/-- A literal of one element, owned. -/
theorem VO_l1t {α : Type} {en : α → U} {es : List α → List U} {z : Nat} [E : Enc α en es z] (a : α) {e bs : Nat} {gg : Bool} [TE P T e] [TI P e gg z bs] {zs : List Value} [TZ P e zs] {js : List Nat} (h : VO P A ops rest ⟨(t, .sl i 0) :: fr, L', N⟩ K) (hy : OV L ((St.mk fr L N).ev x) (en a) js := by ((repeat constructor); first | done | fail)) (hjs : decide js.Nodup = true := by decide)
    (hz : (Nat.blt 0 z && Nat.blt z 16777216 && zs.length == z) = true := by rfl) (ht : Nat.blt t N = true := by rfl) (hk1 : KR js L L1 := by repeat constructor) (hL' : Sn (.own e z 0 (es [a])) L1 i L' := by repeat constructor) :
    VO P A ops (⟨some t, .buildSlice T 1 #[(0, x)], ty, pos, af, none⟩ :: rest) ⟨fr, L, N⟩ K := by
  have e1 : es [a] = [en a] := by rw [E.h]; rfl
  rw [e1] at hL'
  exact VR_slit1 hy hjs TE.h TI.h TZ.h hz (Enc.hz a) ht hk1 hL' h
end
end Go.Eng
set_option linter.unusedVariables false
set_option linter.unusedSimpArgs false
namespace Go.Eng
open Go Go.RowKit
end Go.Eng
namespace Go.Eng
open Go Go.RowKit
/-- Orders: q a quiet operation; h one that may come now, and the others that may (up to nil). -/
inductive OT where
  | nil
  | q (i : Nat) (t : OT)
  | h (i : Nat) (t r : OT)
section
variable {P : Program} {A : Amb} {ops : Array Oper} {K : St → Prop} {σ σ' : St} {t r : OT} {pf : PF} {i : Nat} {b : Bool}
end
end Go.Eng
namespace Go.Eng
open Go Go.RowKit
section
variable {P : Program} {A : Amb} {ops : Array Oper} {K : St → Prop} {Q : Exit → St → Prop} {rest : List Oper} {σ σ' σJ : St} {fr : List (Nat × SV)} {L : List LO} {N t : Nat} {sv : SV}
variable {ty : TypeId} {pos : String} {af : Array Edge} {op : Op}
theorem VQ.alike (hK : ∀ s s', Alike s s' → K s → K s') : ∀ (l : List Oper) {σ σ' : St}, Alike σ σ' → VQ P A ops l σ K → VQ P A ops l σ' K
  | [], _, _, ha, h => hK _ _ ha h
  | o :: l, _, _, ha, ⟨sv, h1, h2⟩ => ⟨sv, YS.congr ha.L.symm ha.N.symm (fun t _ => (ha.fr t).symm) h1, VQ.alike hK l (ha.setO o.dst sv) h2⟩
theorem LeF.alike {n : Nat} (hl : ∀ t, Go.Eng.look σ.fr t = Go.Eng.look σ'.fr t) : ∀ {fr' : List (Nat × SV)}, LeF σ.fr n fr' → LeF σ'.fr n fr'
  | [], h => h
  | p :: r, h => ⟨⟨by rw [← hl]; exact h.1.1, h.1.2⟩, LeF.alike hl h.2⟩
theorem Le.alike (ha : Alike σ σ') (h : Le σ σJ) : Le σ' σJ := ⟨by rw [← ha.N]; exact h.N, LeF.alike ha.fr h.fr, by rw [← ha.L]; exact h.L, h.lt⟩
theorem VQ_case {c : Bool} (tj : Nat) (ht : c = true → VQ P A ops rest ⟨(tj, .d (.b true)) :: fr, L, N⟩ (fun s => Le s σJ)) (hf : c = false → VQ P A ops rest ⟨(tj, .d (.b false)) :: fr, L, N⟩ (fun s => Le s σJ)) (hb : look fr tj = .d (.b c) := by rfl) : VQ P A ops rest ⟨fr, L, N⟩ (fun s => Le s σJ) := by
  have key : ∀ c', c = c' → Alike (σ := ⟨(tj, .d (.b c')) :: fr, L, N⟩) (σ' := ⟨fr, L, N⟩) := fun c' hc => ⟨rfl, rfl, fun t => by
    simp only [look]
    by_cases h : t = tj
    · subst h
      rw [if_pos rfl, ← hc, ← hb]
    · rw [if_neg h]⟩
  cases hc : c with
  | true => exact VQ.alike (fun _ _ => Le.alike) rest (key true hc) (ht hc)
  | false => exact VQ.alike (fun _ _ => Le.alike) rest (key false hc) (hf hc)
/-- A guarded operation that runs. -/
theorem VQ_rg {j tj : Nat} {want : Bool} {o' : Oper} (hq : QR P ⟨fr, L, N⟩ ⟨some t, op, ty, pos, af, some (j, want)⟩ sv) (h : VQ P A ops rest ⟨(t, sv) :: fr, L, N⟩ K) (hj : ops[j]? = some o' := by rfl) (hdst : o'.dst = some tj := by rfl) (htj : Nat.blt tj N = true := by rfl) (hb : look fr tj = .d (.b want) := by rfl) (ht : Nat.blt t N = true := by rfl) :
    VQ P A ops (⟨some t, op, ty, pos, af, some (j, want)⟩ :: rest) ⟨fr, L, N⟩ K := VQ_run hj hdst htj hb hq.q ht h
/-- A quiet region that draws, its ways joined at its end. -/
theorem V_seqJ_draw {id : Nat} {l : List Oper} {y : Code} (hm : P.follows .mixedOrders = true) (σJ : St) (hB : Region.lexB .any l.toArray = true) (h1 : VQ P A l.toArray l σ (fun s => Le s σJ)) (h2 : V P A y σJ Q) (hA : A.L0.length ≤ σJ.L.length := by rw [BaseN.h (A := A)]; exact Nat.le_of_ble_eq_true rfl) :
    V P A (.seq (.region id l.toArray true) y) σ Q := V_seqJ σJ (V_draw hm hB h1) h2 hA
/-! arrays of the call's own whose elements are shared data -/
end
/-- On, until something needs help. -/
theorem goL {X Y : Prop} (hy : Y) (h : Y → X := by
    intro hy
    repeat (first | refine VO_r QR_len ?_ | refine VO_k Q_leno ?_ | refine VO_k Q_lena ?_ | refine VO_rg QR_len ?_ | refine VO_pa ?_ | refine VO_pu ?_ | refine VO_d ?_ (by (repeat constructor); first | done | fail) | refine VQ_r QR_len ?_ | refine VQ_rg QR_len ?_ | refine VQ_d ?_ (by (repeat constructor); first | done | fail) | refine VO_nil ?_ | refine VQ_nil ?_ | refine V_seq_region ?_ | refine V_seqseq ?_ | refine V_seq_draw Mix.h (by kernel_rfl) ?_ | refine V_region ?_ | refine V_draw Mix.h (by kernel_rfl) ?_)
    exact hy) : X := h hy
/-- The like; no region that draws is entered. -/
theorem goNL {X Y : Prop} (hy : Y) (h : Y → X := by
    intro hy
    repeat (first | refine VO_r QR_len ?_ | refine VO_k Q_leno ?_ | refine VO_k Q_lena ?_ | refine VO_rg QR_len ?_ | refine VO_pa ?_ | refine VO_pu ?_ | refine VO_d ?_ (by (repeat constructor); first | done | fail) | refine VQ_r QR_len ?_ | refine VQ_rg QR_len ?_ | refine VQ_d ?_ (by (repeat constructor); first | done | fail) | refine VO_nil ?_ | refine VQ_nil ?_ | refine V_seq_region ?_ | refine V_seqseq ?_ | refine V_region ?_)
    exact hy) : X := h hy
end Go.Eng
set_option linter.unusedVariables false
set_option linter.unusedSimpArgs false
namespace Go.Eng
open Go Go.RowKit
section
variable {P : Program} {A : Amb} {σ : St} {dst : Option Nat} {ty : TypeId} {pos : String} {af : Array Edge} {g : Option (Nat × Bool)}
theorem Q_cc {f : Operand} {fi : Nat} {args : Array Operand} {at_ : Array TypeId} {dargs : List SV} {u : U}
    (hspec : SpecP P fi dargs [u]) (hu : u.scal = true := by rfl) (hf : σ.ev f = .fn fi [] := by rfl) (hargs : WCs σ.L (args.toList.map σ.ev) dargs := by ((repeat (first | exact trivial | exact rfl | exact ⟨_, rfl⟩ | refine Exists.intro _ (And.intro rfl ?_) | refine And.intro ?_ ?_)); first | done | fail)) :
    Quiet P A σ ⟨dst, .call { callee := .value f, args := args, argTypes := at_ }, ty, pos, af, g⟩ (.d u) := Q_calll hf hspec hu hargs
theorem VY_ri {ops : Array Oper} {K : St → Prop} {fr : List (Nat × SV)} {L : List LO} {N i t : Nat} {sv : SV} {op : Op} {r : List (Nat × Bool)} {pf : PF} (hi : ops[i]? = some ⟨some t, op, ty, pos, af, none⟩) (hq : QR P ⟨fr, L, N⟩ ⟨some t, op, ty, pos, af, none⟩ sv) (hv : VY P A ops K r ((i, L) :: pf) ⟨(t, sv) :: fr, L, N⟩) (ht : Nat.blt t N = true := by rfl) :
    VY P A ops K ((i, true) :: r) pf ⟨fr, L, N⟩ := VY_r hq hv hi ht
end
end Go.Eng
namespace Go.Eng
open Go Go.RowKit
section
variable {P : Program} {A : Amb} {σ : St} {dst : Option Nat} {ty T T' : TypeId} {pos : String} {af : Array Edge} {g : Option (Nat × Bool)} {x y : Operand} {a b c d : Int}
end
end Go.Eng
namespace Go.Eng
open Go Go.RowKit
/-- Into the next region. -/
theorem gREG {X Y : Prop} (hy : Y) (h : Y → X := by
    intro hy
    first | refine V_seq_region ?_ | refine V_seq (V_seq_region ?_) | refine V_seq_draw Mix.h (by kernel_rfl) ?_ | refine V_seq (V_seq_draw Mix.h (by kernel_rfl) ?_) | refine V_region ?_ | refine V_draw Mix.h (by kernel_rfl) ?_
    exact hy) : X := h hy
theorem vA {X : Prop} (h : X := by (repeat (first | exact trivial | exact rfl | exact ⟨_, rfl⟩ | refine And.intro ?_ ?_)); first | done | fail) : X := h
end Go.Eng
namespace Go.Eng
open Go Go.RowKit
section
variable {P : Program} {A : Amb} {Q : Exit → St → Prop} {c : Code} {σ : St}
/-! ### nil seen as an owned array: in a temporary -/
inductive AdT (n : Nat) : SV → SV → Prop
  | one : AdT n .nilsl (.sl n 0)
  | ag {cs : List SV} (k : Nat) (h : cs[k]? = some .nilsl) : AdT n (.ag cs) (.ag (cs.set k (.sl n 0)))
theorem Realz.adT {a : Act} {w : World} {fr : List (Nat × SV)} {L : List LO} {N e z t : Nat} {sv' : SV} (hs : AdT L.length (look fr t) sv') (h : Realz A ⟨fr, L, N⟩ a w) : Realz A ⟨(t, sv') :: fr, L ++ [.own e z 0 []], N⟩ a w := by
  obtain ⟨S, env, hH, hf, hN, hd⟩ := h
  obtain ⟨hH1, C1⟩ := hH.newO [] (.own e z 0 []) (.slice none 0 0) (Nat.le_refl _) (fun _ _ => rfl) rfl rfl rfl (fun b hb => by simp only [LO.ft] at hb; rw [(Tr.nil w z).2] at hb; cases hb) (fun _ => nil_own e z 0)
  rw [kill_nil] at hH1 C1
  have hnil : SVr S (L ++ [LO.own e z 0 []]) (env ++ [Value.slice none 0 0]) w (.sl L.length 0) (.slice none 0 0) := by
    simp only [SVr]
    exact ⟨.slice none 0 0, .own e z 0 [], by rw [← hH.len]; simp, by simp, Nat.le_refl _, rfl, fun _ => rfl⟩
  refine ⟨S, _, hH1, fun t' => ?_, hN, hd⟩
  have ht := SVr.carry C1 _ _ (hf t')
  simp only at ht
  by_cases he : t' = t
  · subst he
    simp only [Go.Eng.look, if_true]
    generalize look fr t' = sv at hs ht
    cases hs with
    | one =>
      simp only [SVr] at ht
      rw [ht]
      exact hnil
    | ag k hk =>
      simp only [SVr] at ht ⊢
      obtain ⟨vs, h1, h2⟩ := ht
      rw [SVrs.iff] at h2
      obtain ⟨v, v1, v2⟩ := All2.get h2 k _ hk
      simp only [SVr] at v2
      subst v2
      refine ⟨vs, h1, ?_⟩
      rw [SVrs.iff]
      have hset := All2.set k (.sl L.length 0) (.slice none 0 0) h2 hnil
      have hk' : k < vs.length := (List.getElem?_eq_some_iff.1 v1).1
      have : vs.set k (.slice none 0 0) = vs := by
        apply List.ext_getElem?
        intro m
        rw [List.getElem?_set]
        by_cases hm : k = m
        · subst hm; rw [if_pos rfl, if_pos hk', v1]
        · rw [if_neg hm]
      rwa [this] at hset
  · simp only [Go.Eng.look, if_neg he]
    exact ht
theorem V_adT {fr : List (Nat × SV)} {L L' : List LO} {N n : Nat} {sv' : SV} (e z t : Nat) (h : V P A c ⟨(t, sv') :: fr, L', N⟩ Q) (hn : Ln L n := by repeat constructor) (hs : AdT n (look fr t) sv' := by first | exact AdT.one | exact AdT.ag 0 rfl | exact AdT.ag 1 rfl | exact AdT.ag 2 rfl | exact AdT.ag 3 rfl | exact AdT.ag 4 rfl | exact AdT.ag 5 rfl | exact AdT.ag 6 rfl | exact AdT.ag 7 rfl | exact AdT.ag 8 rfl)
    (h2 : Jn L [.own e z 0 []] L' := by repeat constructor) : V P A c ⟨fr, L, N⟩ Q := by
  have e1 := hn.eq
  have e4 := h2.spec
  subst e1; subst e4
  exact fun a w hr => h a w (hr.adT hs)
end
/-! ### the look at a pointer ahead of its use -/
section
variable {P : Program} {A : Amb} {σ : St} {dst : Option Nat} {ty : TypeId} {pos : String} {af : Array Edge} {g : Option (Nat × Bool)} {x : Operand}
end
/-! ### the end of a function that hands over -/
section
variable {P : Program} {σ : St}
end
end Go.Eng
set_option linter.unusedVariables false
set_option linter.unusedSimpArgs false
namespace Go.Eng
open Go Go.RowKit
section
variable {j v : Nat} {S : Nat → Prop} {L L' : List LO} {env : List Value} {w : World}
end
/-! ### calls that hand over, in regions that draw their order -/
section
variable {P : Program} {A : Amb} {ops : Array Oper} {K : St → Prop} {r : List (Nat × Bool)} {pf : PF} {fr : List (Nat × SV)} {L L' : List LO} {N i t : Nat} {sv : SV}
variable {ty : TypeId} {pos : String} {af : Array Edge}
end
/-! ### short forms of my templates' blocks -/
structure Hid (Y : Prop) : Prop where
  get : Y
theorem gGO {X Y : Prop} (hy : Y) (h : Hid Y → X := by
    intro hy
    repeat (first | refine VO_d ?_ | refine VQ_d ?_ | refine VO_nil ?_ | refine VQ_nil ?_ | refine V_seq_region ?_ | refine V_seq (V_seq_region ?_) | refine V_seq_draw Mix.h (by kernel_rfl) ?_ | refine V_seq (V_seq_draw Mix.h (by kernel_rfl) ?_) | refine V_region ?_ | refine V_draw Mix.h (by kernel_rfl) ?_)
    exact hy.get) : X := h ⟨hy⟩
/-- The like; one step at least. -/
theorem gGP {X Y : Prop} (hy : Y) (h : Hid Y → X := by
    intro hy
    first | refine VO_d ?_ | refine VQ_d ?_ | refine VO_nil ?_ | refine VQ_nil ?_ | refine V_seq_region ?_ | refine V_seq (V_seq_region ?_) | refine V_seq_draw Mix.h (by kernel_rfl) ?_ | refine V_seq (V_seq_draw Mix.h (by kernel_rfl) ?_) | refine V_region ?_ | refine V_draw Mix.h (by kernel_rfl) ?_
    repeat (first | refine VO_d ?_ | refine VQ_d ?_ | refine VO_nil ?_ | refine VQ_nil ?_ | refine V_seq_region ?_ | refine V_seq (V_seq_region ?_) | refine V_seq_draw Mix.h (by kernel_rfl) ?_ | refine V_seq (V_seq_draw Mix.h (by kernel_rfl) ?_) | refine V_region ?_ | refine V_draw Mix.h (by kernel_rfl) ?_)
    exact hy.get) : X := h ⟨hy⟩
section
variable {P : Program} {A : Amb} {ops : Array Oper} {K : St → Prop} {rest : List Oper} {fr : List (Nat × SV)} {L : List LO} {N t : Nat} {sv : SV} {ty : TypeId} {pos : String} {af : Array Edge} {op : Op}
theorem qO (hq : Quiet P A ⟨fr, L, N⟩ ⟨some t, op, ty, pos, af, none⟩ sv) (h : VO P A ops rest ⟨(t, sv) :: fr, L, N⟩ K) (ht : Nat.blt t N = true := by rfl) : VO P A ops (⟨some t, op, ty, pos, af, none⟩ :: rest) ⟨fr, L, N⟩ K := VO_q hq ht h
end
section
variable {P : Program} {A : Amb} {σ : St} {dst : Option Nat} {ty T T' : TypeId} {pos : String} {af : Array Edge} {g : Option (Nat × Bool)} {x y : Operand}
theorem Q_remI {m n : Int} (h0 : 0 ≤ m) (hx : σ.ev x = .d (.i .i64 m) := by rfl) (hy : σ.ev y = .d (.i .i64 n) := by rfl) (hn : decide (0 < n) = true := by rfl) : Quiet P A σ ⟨dst, .binOp .rem T x y T', ty, pos, af, g⟩ (.d (.i .i64 (m % n))) := by
  obtain ⟨a, rfl⟩ := Int.eq_ofNat_of_zero_le h0
  have hn' := of_decide_eq_true hn
  obtain ⟨b, rfl⟩ := Int.eq_ofNat_of_zero_le (Int.le_of_lt hn')
  exact Q_rem hx hy (by simp only [Nat.blt_eq]; omega)
end
end Go.Eng
