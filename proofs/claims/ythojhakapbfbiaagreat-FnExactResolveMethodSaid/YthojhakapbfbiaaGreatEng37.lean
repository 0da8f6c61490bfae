/- The engine, part 35: the program's structs as Lean structures, how they stand as data. Written by a program of mine (gty.py). -/
import Derived.Test.YthojhakapbfbiaaGreatEng34
set_option linter.unusedVariables false
namespace Go.Eng
open Go Go.RowKit
def eInt (n : Int) : U := .i .i64 n
def eStr (s : List UInt8) : U := .s s
def eInts : List Int → List U
  | [] => []
  | a :: l => .i .i64 a :: eInts l
def eStrs : List (List UInt8) → List U
  | [] => []
  | a :: l => .s a :: eStrs l
class Enc (α : Type) (e : outParam (α → U)) (es : outParam (List α → List U)) (z : outParam Nat) : Prop where
  h : ∀ l, es l = l.map e
  hz : ∀ x, (e x).sz = z
theorem Enc.get {α : Type} {e : α → U} {es : List α → List U} {z : Nat} [E : Enc α e es z] {l : List α} {k : Nat} {x : α} (h : l[k]? = some x) : (es l)[k]? = some (e x) := by rw [E.h, List.getElem?_map, h]; rfl
theorem Enc.len {α : Type} {e : α → U} {es : List α → List U} {z : Nat} [E : Enc α e es z] (l : List α) : (es l).length = l.length := by rw [E.h, List.length_map]
theorem Enc.app {α : Type} {e : α → U} {es : List α → List U} {z : Nat} [E : Enc α e es z] (l r : List α) : es (l ++ r) = es l ++ es r := by simp only [E.h, List.map_append]
theorem Enc.set {α : Type} {e : α → U} {es : List α → List U} {z : Nat} [E : Enc α e es z] (l : List α) (k : Nat) (x : α) : es (l.set k x) = (es l).set k (e x) := by simp only [E.h, List.map_set]
theorem Enc.rep {α : Type} {e : α → U} {es : List α → List U} {z : Nat} [E : Enc α e es z] (n : Nat) (x : α) : es (List.replicate n x) = List.replicate n (e x) := by simp only [E.h, List.map_replicate]
theorem Enc.all {α : Type} {e : α → U} {es : List α → List U} {z : Nat} [E : Enc α e es z] (l : List α) : ∀ u ∈ es l, u.sz = z := by
  rw [E.h]
  intro u hu
  obtain ⟨x, _, rfl⟩ := List.mem_map.1 hu
  exact E.hz x
instance : Enc Int eInt eInts 1 := ⟨fun l => by induction l with | nil => rfl | cons a l ih => simp [eInts, ih, eInt], fun _ => rfl⟩
instance : Enc (List UInt8) eStr eStrs 1 := ⟨fun l => by induction l with | nil => rfl | cons a l ih => simp [eStrs, ih, eStr], fun _ => rfl⟩
theorem eInts_noSl (l : List Int) : U.noSls (eInts l) = true := by induction l with | nil => rfl | cons a l ih => simp [eInts, U.noSls, U.noSl, ih]
structure TType where
  kind : Int
  name : List UInt8
  args : List TType
mutual
def eType : TType → U
  | ⟨f0, f1, f2⟩ => .st [.i .i64 f0, .s f1, .sl 3 (eTypes f2)]
def eTypes : List TType → List U
  | [] => []
  | a :: l => eType a :: eTypes l
end
theorem eType_sz (x : TType) : (eType x).sz = 3 := by cases x; simp [eType, U.sz, U.szs]
instance : Enc TType eType eTypes 3 := ⟨fun l => by induction l with | nil => rfl | cons a l ih => simp [eTypes, ih], eType_sz⟩
mutual
structure TArm where
  constructor : List UInt8
  vars : List (List UInt8)
  body : TExpr
structure TExpr where
  kind : Int
  trait : List UInt8
  name : List UInt8
  n : Int
  type_ : TType
  args : List TExpr
  arms : List TArm
end
mutual
def eArm : TArm → U
  | ⟨f0, f1, f2⟩ => .st [.s f0, .sl 1 (eStrs f1), eExpr f2]
def eArms : List TArm → List U
  | [] => []
  | a :: l => eArm a :: eArms l
def eExpr : TExpr → U
  | ⟨f0, f1, f2, f3, f4, f5, f6⟩ => .st [.i .i64 f0, .s f1, .s f2, .i .i64 f3, eType f4, .sl 9 (eExprs f5), .sl 11 (eArms f6)]
def eExprs : List TExpr → List U
  | [] => []
  | a :: l => eExpr a :: eExprs l
end
theorem eExpr_sz (x : TExpr) : (eExpr x).sz = 9 := by cases x; simp [eExpr, U.sz, U.szs, eType_sz]
instance : Enc TExpr eExpr eExprs 9 := ⟨fun l => by induction l with | nil => rfl | cons a l ih => simp [eExprs, ih], eExpr_sz⟩
theorem eArm_sz (x : TArm) : (eArm x).sz = 11 := by cases x; simp [eArm, U.sz, U.szs, eExpr_sz]
instance : Enc TArm eArm eArms 11 := ⟨fun l => by induction l with | nil => rfl | cons a l ih => simp [eArms, ih], eArm_sz⟩
structure TSignature where
  name : List UInt8
  params : List TType
  result : TType
  hasDefault : Bool
  vars : List (List UInt8)
  body : TExpr
mutual
def eSignature : TSignature → U
  | ⟨f0, f1, f2, f3, f4, f5⟩ => .st [.s f0, .sl 3 (eTypes f1), eType f2, .b f3, .sl 1 (eStrs f4), eExpr f5]
def eSignatures : List TSignature → List U
  | [] => []
  | a :: l => eSignature a :: eSignatures l
end
theorem eSignature_sz (x : TSignature) : (eSignature x).sz = 16 := by cases x; simp [eSignature, U.sz, U.szs, eExpr_sz, eType_sz]
instance : Enc TSignature eSignature eSignatures 16 := ⟨fun l => by induction l with | nil => rfl | cons a l ih => simp [eSignatures, ih], eSignature_sz⟩
theorem gSignature {l : List TSignature} {k : Nat} {x : TSignature} (h : l[k]? = some x) : (eSignatures l)[k]? = some (eSignature x) := Enc.get h
structure TTrait where
  name : List UInt8
  supertraits : List (List UInt8)
  auto : Bool
  assoc : Bool
  signatures : List TSignature
mutual
def eTrait : TTrait → U
  | ⟨f0, f1, f2, f3, f4⟩ => .st [.s f0, .sl 1 (eStrs f1), .b f2, .b f3, .sl 16 (eSignatures f4)]
def eTraits : List TTrait → List U
  | [] => []
  | a :: l => eTrait a :: eTraits l
end
theorem eTrait_sz (x : TTrait) : (eTrait x).sz = 5 := by cases x; simp [eTrait, U.sz, U.szs]
instance : Enc TTrait eTrait eTraits 5 := ⟨fun l => by induction l with | nil => rfl | cons a l ih => simp [eTraits, ih], eTrait_sz⟩
theorem gTrait {l : List TTrait} {k : Nat} {x : TTrait} (h : l[k]? = some x) : (eTraits l)[k]? = some (eTrait x) := Enc.get h
structure TConstructor where
  name : List UInt8
  fields : List TType
mutual
def eConstructor : TConstructor → U
  | ⟨f0, f1⟩ => .st [.s f0, .sl 3 (eTypes f1)]
def eConstructors : List TConstructor → List U
  | [] => []
  | a :: l => eConstructor a :: eConstructors l
end
theorem eConstructor_sz (x : TConstructor) : (eConstructor x).sz = 2 := by cases x; simp [eConstructor, U.sz, U.szs]
instance : Enc TConstructor eConstructor eConstructors 2 := ⟨fun l => by induction l with | nil => rfl | cons a l ih => simp [eConstructors, ih], eConstructor_sz⟩
structure TDataType where
  name : List UInt8
  vars : List (List UInt8)
  constructors : List TConstructor
mutual
def eDataType : TDataType → U
  | ⟨f0, f1, f2⟩ => .st [.s f0, .sl 1 (eStrs f1), .sl 2 (eConstructors f2)]
def eDataTypes : List TDataType → List U
  | [] => []
  | a :: l => eDataType a :: eDataTypes l
end
theorem eDataType_sz (x : TDataType) : (eDataType x).sz = 3 := by cases x; simp [eDataType, U.sz, U.szs]
instance : Enc TDataType eDataType eDataTypes 3 := ⟨fun l => by induction l with | nil => rfl | cons a l ih => simp [eDataTypes, ih], eDataType_sz⟩
structure TBound where
  trait : List UInt8
  type_ : TType
mutual
def eBound : TBound → U
  | ⟨f0, f1⟩ => .st [.s f0, eType f1]
def eBounds : List TBound → List U
  | [] => []
  | a :: l => eBound a :: eBounds l
end
theorem eBound_sz (x : TBound) : (eBound x).sz = 4 := by cases x; simp [eBound, U.sz, U.szs, eType_sz]
instance : Enc TBound eBound eBounds 4 := ⟨fun l => by induction l with | nil => rfl | cons a l ih => simp [eBounds, ih], eBound_sz⟩
structure TMethod where
  name : List UInt8
  vars : List (List UInt8)
  body : TExpr
mutual
def eMethod : TMethod → U
  | ⟨f0, f1, f2⟩ => .st [.s f0, .sl 1 (eStrs f1), eExpr f2]
def eMethods : List TMethod → List U
  | [] => []
  | a :: l => eMethod a :: eMethods l
end
theorem eMethod_sz (x : TMethod) : (eMethod x).sz = 11 := by cases x; simp [eMethod, U.sz, U.szs, eExpr_sz]
instance : Enc TMethod eMethod eMethods 11 := ⟨fun l => by induction l with | nil => rfl | cons a l ih => simp [eMethods, ih], eMethod_sz⟩
theorem gMethod {l : List TMethod} {k : Nat} {x : TMethod} (h : l[k]? = some x) : (eMethods l)[k]? = some (eMethod x) := Enc.get h
structure TInstance where
  trait : List UInt8
  vars : List (List UInt8)
  head : TType
  where_ : List TBound
  default_ : Bool
  hasAssoc : Bool
  assoc : TType
  methods : List TMethod
mutual
def eInstance : TInstance → U
  | ⟨f0, f1, f2, f3, f4, f5, f6, f7⟩ => .st [.s f0, .sl 1 (eStrs f1), eType f2, .sl 4 (eBounds f3), .b f4, .b f5, eType f6, .sl 11 (eMethods f7)]
def eInstances : List TInstance → List U
  | [] => []
  | a :: l => eInstance a :: eInstances l
end
theorem eInstance_sz (x : TInstance) : (eInstance x).sz = 12 := by cases x; simp [eInstance, U.sz, U.szs, eType_sz]
instance : Enc TInstance eInstance eInstances 12 := ⟨fun l => by induction l with | nil => rfl | cons a l ih => simp [eInstances, ih], eInstance_sz⟩
theorem gInstance {l : List TInstance} {k : Nat} {x : TInstance} (h : l[k]? = some x) : (eInstances l)[k]? = some (eInstance x) := Enc.get h
structure TParam where
  name : List UInt8
  type_ : TType
mutual
def eParam : TParam → U
  | ⟨f0, f1⟩ => .st [.s f0, eType f1]
def eParams : List TParam → List U
  | [] => []
  | a :: l => eParam a :: eParams l
end
theorem eParam_sz (x : TParam) : (eParam x).sz = 4 := by cases x; simp [eParam, U.sz, U.szs, eType_sz]
instance : Enc TParam eParam eParams 4 := ⟨fun l => by induction l with | nil => rfl | cons a l ih => simp [eParams, ih], eParam_sz⟩
structure TFunction where
  name : List UInt8
  vars : List (List UInt8)
  where_ : List TBound
  params : List TParam
  result : TType
  body : TExpr
mutual
def eFunction : TFunction → U
  | ⟨f0, f1, f2, f3, f4, f5⟩ => .st [.s f0, .sl 1 (eStrs f1), .sl 4 (eBounds f2), .sl 4 (eParams f3), eType f4, eExpr f5]
def eFunctions : List TFunction → List U
  | [] => []
  | a :: l => eFunction a :: eFunctions l
end
theorem eFunction_sz (x : TFunction) : (eFunction x).sz = 16 := by cases x; simp [eFunction, U.sz, U.szs, eExpr_sz, eType_sz]
instance : Enc TFunction eFunction eFunctions 16 := ⟨fun l => by induction l with | nil => rfl | cons a l ih => simp [eFunctions, ih], eFunction_sz⟩
structure TPackage where
  name : List UInt8
  deps : List (List UInt8)
  traits : List TTrait
  dataTypes : List TDataType
  instances : List TInstance
  functions : List TFunction
mutual
def ePackage : TPackage → U
  | ⟨f0, f1, f2, f3, f4, f5⟩ => .st [.s f0, .sl 1 (eStrs f1), .sl 5 (eTraits f2), .sl 3 (eDataTypes f3), .sl 12 (eInstances f4), .sl 16 (eFunctions f5)]
def ePackages : List TPackage → List U
  | [] => []
  | a :: l => ePackage a :: ePackages l
end
theorem ePackage_sz (x : TPackage) : (ePackage x).sz = 6 := by cases x; simp [ePackage, U.sz, U.szs]
instance : Enc TPackage ePackage ePackages 6 := ⟨fun l => by induction l with | nil => rfl | cons a l ih => simp [ePackages, ih], ePackage_sz⟩
theorem gPackage {l : List TPackage} {k : Nat} {x : TPackage} (h : l[k]? = some x) : (ePackages l)[k]? = some (ePackage x) := Enc.get h
structure TProgram where
  packages : List TPackage
mutual
def eProgram : TProgram → U
  | ⟨f0⟩ => .st [.sl 6 (ePackages f0)]
def ePrograms : List TProgram → List U
  | [] => []
  | a :: l => eProgram a :: ePrograms l
end
structure TInstanceRef where
  package : Int
  at_ : Int
mutual
def eInstanceRef : TInstanceRef → U
  | ⟨f0, f1⟩ => .st [.i .i64 f0, .i .i64 f1]
def eInstanceRefs : List TInstanceRef → List U
  | [] => []
  | a :: l => eInstanceRef a :: eInstanceRefs l
end
theorem eInstanceRef_sz (x : TInstanceRef) : (eInstanceRef x).sz = 2 := by cases x; simp [eInstanceRef, U.sz, U.szs]
structure TEvidence where
  kind : Int
  n : Int
  at_ : TInstanceRef
  args : List TEvidence
mutual
def eEvidence : TEvidence → U
  | ⟨f0, f1, f2, f3⟩ => .st [.i .i64 f0, .i .i64 f1, eInstanceRef f2, .sl 5 (eEvidences f3)]
def eEvidences : List TEvidence → List U
  | [] => []
  | a :: l => eEvidence a :: eEvidences l
end
theorem eEvidence_sz (x : TEvidence) : (eEvidence x).sz = 5 := by cases x; simp [eEvidence, U.sz, U.szs, eInstanceRef_sz]
instance : Enc TEvidence eEvidence eEvidences 5 := ⟨fun l => by induction l with | nil => rfl | cons a l ih => simp [eEvidences, ih], eEvidence_sz⟩
mutual
structure TCoreArm where
  constructor : List UInt8
  vars : List (List UInt8)
  body : TCore
structure TCore where
  kind : Int
  trait : List UInt8
  name : List UInt8
  n : Int
  type_ : TType
  typeArgs : List TType
  evidence : List TEvidence
  args : List TCore
  arms : List TCoreArm
end
mutual
def eCoreArm : TCoreArm → U
  | ⟨f0, f1, f2⟩ => .st [.s f0, .sl 1 (eStrs f1), eCore f2]
def eCoreArms : List TCoreArm → List U
  | [] => []
  | a :: l => eCoreArm a :: eCoreArms l
def eCore : TCore → U
  | ⟨f0, f1, f2, f3, f4, f5, f6, f7, f8⟩ => .st [.i .i64 f0, .s f1, .s f2, .i .i64 f3, eType f4, .sl 3 (eTypes f5), .sl 5 (eEvidences f6), .sl 11 (eCores f7), .sl 13 (eCoreArms f8)]
def eCores : List TCore → List U
  | [] => []
  | a :: l => eCore a :: eCores l
end
theorem eCore_sz (x : TCore) : (eCore x).sz = 11 := by cases x; simp [eCore, U.sz, U.szs, eType_sz]
instance : Enc TCore eCore eCores 11 := ⟨fun l => by induction l with | nil => rfl | cons a l ih => simp [eCores, ih], eCore_sz⟩
theorem eCoreArm_sz (x : TCoreArm) : (eCoreArm x).sz = 13 := by cases x; simp [eCoreArm, U.sz, U.szs, eCore_sz]
instance : Enc TCoreArm eCoreArm eCoreArms 13 := ⟨fun l => by induction l with | nil => rfl | cons a l ih => simp [eCoreArms, ih], eCoreArm_sz⟩
structure TUnit where
  kind : Int
  package : Int
  at_ : Int
  sub : Int
  vars : List (List UInt8)
  where_ : List TBound
  params : List TParam
  result : TType
  body : TCore
mutual
def eUnit : TUnit → U
  | ⟨f0, f1, f2, f3, f4, f5, f6, f7, f8⟩ => .st [.i .i64 f0, .i .i64 f1, .i .i64 f2, .i .i64 f3, .sl 1 (eStrs f4), .sl 4 (eBounds f5), .sl 4 (eParams f6), eType f7, eCore f8]
def eUnits : List TUnit → List U
  | [] => []
  | a :: l => eUnit a :: eUnits l
end
theorem eUnit_sz (x : TUnit) : (eUnit x).sz = 21 := by cases x; simp [eUnit, U.sz, U.szs, eCore_sz, eType_sz]
instance : Enc TUnit eUnit eUnits 21 := ⟨fun l => by induction l with | nil => rfl | cons a l ih => simp [eUnits, ih], eUnit_sz⟩
theorem gUnit {l : List TUnit} {k : Nat} {x : TUnit} (h : l[k]? = some x) : (eUnits l)[k]? = some (eUnit x) := Enc.get h
structure TDictionary where
  kind : Int
  at_ : TInstanceRef
  steps : List Int
  args : List TDictionary
mutual
def eDictionary : TDictionary → U
  | ⟨f0, f1, f2, f3⟩ => .st [.i .i64 f0, eInstanceRef f1, .sl 1 (eInts f2), .sl 5 (eDictionarys f3)]
def eDictionarys : List TDictionary → List U
  | [] => []
  | a :: l => eDictionary a :: eDictionarys l
end
theorem eDictionary_sz (x : TDictionary) : (eDictionary x).sz = 5 := by cases x; simp [eDictionary, U.sz, U.szs, eInstanceRef_sz]
instance : Enc TDictionary eDictionary eDictionarys 5 := ⟨fun l => by induction l with | nil => rfl | cons a l ih => simp [eDictionarys, ih], eDictionary_sz⟩
theorem gDictionary {l : List TDictionary} {k : Nat} {x : TDictionary} (h : l[k]? = some x) : (eDictionarys l)[k]? = some (eDictionary x) := Enc.get h
end Go.Eng
set_option linter.unusedVariables false
set_option linter.unusedSimpArgs false
namespace Go.Eng
open Go Go.RowKit
theorem lt_x {α β : Type} {v : α} {k : α → β} {r : β} (h : lt_ v k = r) : ∃ x, v = x ∧ k x = r := ⟨v, rfl, h⟩
section
variable {l : List UInt8} {k n : Nat}
theorem kltN (h : decide ((k : Int) < (n : Int)) = true) : k < n := by have h := of_decide_eq_true h; omega
theorem kgeN (h : decide ((k : Int) < (n : Int)) = false) : n ≤ k := by have h := of_decide_eq_false h; omega
end
section
variable {P : Program} {A : Amb} {ops : Array Oper} {K : St → Prop} {Q : Exit → St → Prop} {rest : List Oper} {σ : St} {c : Code}
theorem VO_join (σJ : St) (h1 : VO P A ops rest σ (fun s => Le s σJ)) (h2 : K σJ) (hA : A.L0.length ≤ σJ.L.length := by rw [BaseN.h (A := A)]; exact Nat.le_of_ble_eq_true rfl) : VO P A ops rest σ K :=
  fun R hR a w hr => h1 R (fun σ' a' w' hle hr' => hR σJ a' w' h2 (hr'.le hle hA)) a w hr
theorem V_seqJ {x y : Code} (σJ : St) (h1 : V P A x σ (thenS (fun s => Le s σJ) Q)) (h2 : V P A y σJ Q) (hA : A.L0.length ≤ σJ.L.length := by rw [BaseN.h (A := A)]; exact Nat.le_of_ble_eq_true rfl) : V P A (.seq x y) σ Q :=
  V_seq (V.mono h1 (fun e s hq => by
    cases e with
    | normal => exact V_le hq h2 hA
    | _ => exact hq))
theorem V_loop1 {α0 : Type} (I : α0 → St) (J : α0 → Prop) (μ : α0 → Nat) (x0 : α0) (h0 : Le σ (I x0)) (hJ : J x0)
    (round : ∀ a0, J a0 → V P A c (I a0) (thenS (fun s => ∃ b0, J b0 ∧ μ b0 < μ a0 ∧ Le s (I b0)) Q)) (hA : ∀ a0, A.L0.length ≤ (I a0).L.length := by intros; rw [BaseN.h (A := A)]; exact Nat.le_of_ble_eq_true rfl) : V P A (.loop c) σ Q :=
  V_loop (α := α0) (fun x => I (x)) (fun x => J (x)) (fun x => μ (x)) (x0) h0 hJ (fun x hx => V.mono (round (x) hx) (fun e s hq => by
    cases e with
    | normal =>
      obtain ⟨b0, h1, h2, h3⟩ := hq
      exact ⟨(b0), h1, h2, h3⟩
    | _ => exact hq)) (fun x => hA (x))
theorem V_loop2 {α0 α1 : Type} (I : α0 → α1 → St) (J : α0 → α1 → Prop) (μ : α0 → α1 → Nat) (x0 : α0) (x1 : α1) (h0 : Le σ (I x0 x1)) (hJ : J x0 x1)
    (round : ∀ a0 a1, J a0 a1 → V P A c (I a0 a1) (thenS (fun s => ∃ b0 b1, J b0 b1 ∧ μ b0 b1 < μ a0 a1 ∧ Le s (I b0 b1)) Q)) (hA : ∀ a0 a1, A.L0.length ≤ (I a0 a1).L.length := by intros; rw [BaseN.h (A := A)]; exact Nat.le_of_ble_eq_true rfl) : V P A (.loop c) σ Q :=
  V_loop (α := α0 × α1) (fun x => I (x.1) (x.2)) (fun x => J (x.1) (x.2)) (fun x => μ (x.1) (x.2)) (x0, x1) h0 hJ (fun x hx => V.mono (round (x.1) (x.2) hx) (fun e s hq => by
    cases e with
    | normal =>
      obtain ⟨b0, b1, h1, h2, h3⟩ := hq
      exact ⟨(b0, b1), h1, h2, h3⟩
    | _ => exact hq)) (fun x => hA (x.1) (x.2))
theorem V_loop3 {α0 α1 α2 : Type} (I : α0 → α1 → α2 → St) (J : α0 → α1 → α2 → Prop) (μ : α0 → α1 → α2 → Nat) (x0 : α0) (x1 : α1) (x2 : α2) (h0 : Le σ (I x0 x1 x2)) (hJ : J x0 x1 x2)
    (round : ∀ a0 a1 a2, J a0 a1 a2 → V P A c (I a0 a1 a2) (thenS (fun s => ∃ b0 b1 b2, J b0 b1 b2 ∧ μ b0 b1 b2 < μ a0 a1 a2 ∧ Le s (I b0 b1 b2)) Q)) (hA : ∀ a0 a1 a2, A.L0.length ≤ (I a0 a1 a2).L.length := by intros; rw [BaseN.h (A := A)]; exact Nat.le_of_ble_eq_true rfl) : V P A (.loop c) σ Q :=
  V_loop (α := α0 × α1 × α2) (fun x => I (x.1) (x.2.1) (x.2.2)) (fun x => J (x.1) (x.2.1) (x.2.2)) (fun x => μ (x.1) (x.2.1) (x.2.2)) (x0, x1, x2) h0 hJ (fun x hx => V.mono (round (x.1) (x.2.1) (x.2.2) hx) (fun e s hq => by
    cases e with
    | normal =>
      obtain ⟨b0, b1, b2, h1, h2, h3⟩ := hq
      exact ⟨(b0, b1, b2), h1, h2, h3⟩
    | _ => exact hq)) (fun x => hA (x.1) (x.2.1) (x.2.2))
end
end Go.Eng
set_option linter.unusedVariables false
set_option linter.unusedSimpArgs false
namespace Go.Eng
open Go Go.RowKit
section
variable {P : Program} {A : Amb} {ops : Array Oper} {K : St → Prop} {Q : Exit → St → Prop} {rest : List Oper} {σ : St} {fr : List (Nat × SV)} {L L1 L' : List LO} {N i t : Nat} {sv : SV} {o : Oper} {c : Code}
variable {ty T : TypeId} {pos : String} {af : Array Edge} {x y : Operand} {g : Option (Nat × Bool)} {dst : Option Nat} {op : Op}
/-! ### lengths -/
theorem QR_len {α : Type} {e : α → U} {es : List α → List U} {z z' : Nat} [E : Enc α e es z] {el : TypeId} [TE P T el] {T' : TypeId} {l : List α} (hx : σ.ev x = .d (.sl z' (es l)) := by rfl) : QR P σ ⟨dst, .call { callee := .builtin .len, args := #[x], argTypes := #[T] }, T', pos, af, g⟩ (.d (.i .i64 (l.length : Int))) :=
  fun A fr' L' he _ => by
    rw [← Enc.len (es := es) l]
    exact Q_len (by rw [he x (by simp [Op.operands, Call.operands])]; exact hx) TE.h
/-! ### guarded operations that are passed over -/
theorem VO_pa {j tj : Nat} {want x : Bool} {o' : Oper} (h : VO P A ops rest ⟨(t, .tup []) :: fr, L, N⟩ K) (hj : ops[j]? = some o' := by rfl) (hdst : o'.dst = some tj := by rfl) (htj : Nat.blt tj N = true := by rfl) (hb : look fr tj = .d (.b x) := by rfl) (hx : (x == want) = false := by rfl) (ht : Nat.blt t N = true := by rfl) :
    VO P A ops (⟨some t, op, ty, pos, af, some (j, want)⟩ :: rest) ⟨fr, L, N⟩ K := by
  intro R hR a w ⟨S, env, hH, hf, hN, hd⟩
  have h1 := h R hR (a.put (some t) undef) w (realz_put hf hN hd ht hH Carry.refl (by simp only [SVr]; exact ⟨[], rfl, by simp [SVrs]⟩))
  have h2 := hf tj
  rw [hb] at h2
  have h3 := SVr.bool.1 h2
  have ht' : tj < a.tmps.size := by rw [hN]; simpa [Nat.blt_eq] using htj
  have hy : yielded ops a.tmps j = some x := by
    simp only [yielded, hj, hdst, Option.bind_some]
    have : a.tmps[tj]? = some (.bool x) := by
      rw [Array.getD_eq_getD_getElem?, Array.getElem?_eq_getElem ht'] at h3
      rw [Array.getElem?_eq_getElem ht']
      have h3' : a.tmps[tj] = .bool x := by simpa using h3
      rw [h3']
    rw [this]
  unfold wpList
  simp only [Region.wanted, hy]
  have hne : (some x == some want) = false := by simpa using hx
  rw [hne]
  exact h1
/-! ### the call that hands over -/
theorem R_rP {fn : Func} {us : List U} (h : ResPs P σ fn.results.toList us := by ((repeat (first | exact trivial | exact ⟨_, rfl, rfl⟩ | exact ⟨_, rfl, ⟨_, rfl⟩⟩ | exact ⟨_, ResV_ag rfl rfl TI.h rfl rfl, (by (repeat (first | exact trivial | exact rfl | exact ⟨_, rfl⟩ | refine And.intro ?_ ?_)); first | done | fail)⟩ | exact ⟨_, ResV_one rfl rfl TI.h rfl, rfl⟩ | refine And.intro ?_ ?_)); first | done | fail)) : PostP P fn us .ret σ := ⟨trivial, h⟩
theorem R_rO {fn : Func} {es : List TypeId} {us : List U} {ps : List (Option Nat)} (h : ROs P σ fn.results.toList us es ps := by ((repeat (first | exact rfl | exact ResV_ag rfl rfl TI.h rfl rfl | exact ResV_one rfl rfl TI.h rfl | constructor)); first | done | fail)) (hn : decide ((ps.filterMap id).Nodup) = true := by rfl) : PostO P fn es us .ret σ := ⟨trivial, ps, h, hn⟩
/-! ### a call of a function that was handed in -/
theorem QR_callf {f : Operand} {fi : Nat} {caps : List SV} {args : Array Operand} {at_ : Array TypeId} {dargs : List SV} {us : List U} (hspec : SpecP P fi (dargs ++ caps) us) (hc : SV.lts 0 caps = true) (hf : σ.ev f = .fn fi caps := by rfl)
    (hargs : ∀ L', VAs L' (args.toList.map σ.ev) dargs := by (intro L'; (repeat (first | exact trivial | exact rfl | exact ⟨_, rfl⟩ | refine And.intro ?_ ?_)); first | done | fail)) :
    QR P σ ⟨dst, .call { callee := .value f, args := args, argTypes := at_ }, ty, pos, af, g⟩ (mkR us) :=
  fun A fr' L' he _ => Q_callc (by rw [he f (by simp [Op.operands, Call.operands])]; exact hf) hspec (by
    have : args.toList.map (St.ev ⟨fr', L', σ.N⟩) = args.toList.map σ.ev := List.map_congr_left fun x hx => he x (by simp only [Op.operands, Call.operands]; simp; exact .inr (by simpa using hx))
    rw [this]
    exact hargs L') hc
/-! ### arrays -/
theorem VO_l0 {e z bs : Nat} {gg : Bool} [TE P T e] [TI P e gg z bs] (h : VO P A ops rest ⟨(t, .sl i 0) :: fr, L', N⟩ K) (ht : Nat.blt t N = true := by rfl) (hL' : Sn (.own e z 0 []) L i L' := by repeat constructor) :
    VO P A ops (⟨some t, .buildSlice T 0 #[], ty, pos, af, none⟩ :: rest) ⟨fr, L, N⟩ K := VO_slit0 TE.h TI.h ht hL' h
/-- Append to an owned array. -/
theorem VO_ap {α : Type} {en : α → U} {es : List α → List U} {z : Nat} [E : Enc α en es z] {l r : List α} (hg : l.length + r.length ≤ 4294967296) {e bs ver : Nat} {gg : Bool} [TE P T e] [TI P e gg z bs] {zs : List Value} [TZ P e zs] {js : List Nat} {T' : TypeId}
    (h : VO P A ops rest ⟨(t, .sl i (ver + 1)) :: fr, L', N⟩ K) (hx : (St.mk fr L N).ev x = .sl i ver := by rfl) (hL : L[i]? = some (.own e z ver (es l)) := by rfl) (hs : SrcO L z ((St.mk fr L N).ev y) (es r) js := by first | exact .own rfl | exact .nil | exact .data (Enc.all _) (eStrs_noSl _) | exact .data (Enc.all _) (eInts_noSl _))
    (hjs : (decide js.Nodup && !js.contains i) = true := by decide) (hz : (Nat.blt 0 z && zs.length == z) = true := by rfl) (hb : Nat.ble bs 32768 = true := by rfl)
    (ht : Nat.blt t N = true := by rfl) (hk1 : KR js L L1 := by repeat constructor) (hL' : St1 (.own e z (ver + 1) (es (l ++ r))) i L1 L' := by repeat constructor) :
    VO P A ops (⟨some t, .call { callee := .builtin .append, args := #[x, y], argTypes := #[T, T] }, T', pos, af, none⟩ :: rest) ⟨fr, L, N⟩ K := by
  have h1 : (es l).length = l.length := Enc.len l
  have h2 : (es r).length = r.length := Enc.len r
  have hb := Nat.le_of_ble_eq_true hb
  rw [Enc.app (es := es)] at hL'
  refine VR_append hx hL hs hjs TE.h TI.h TZ.h hz (by rw [big_eq]; omega) ?_ ht hk1 hL' h
  rw [h1, h2]
  exact Nat.le_trans (Nat.mul_le_mul hg hb) (by decide)
/-! ### an owned array is let go: from here on it is data -/
/-! ### how long a list that is held can be -/
theorem V_bd {α : Type} {e : α → U} {es : List α → List U} {z : Nat} [E : Enc α e es z] {l : List α} {z' : Nat} (j : Nat) (h : l.length ≤ 140737488355328 → V P A c ⟨fr, L, N⟩ Q) (hb : look fr j = .d (.sl z' (es l)) := by rfl) : V P A c ⟨fr, L, N⟩ Q := by
  intro a w hr
  refine h ?_ a w hr
  obtain ⟨S, env, hH, hf, hN, hd⟩ := hr
  have := hf j
  simp only at this
  rw [hb] at this
  have := (SVr.slice.1 this).1
  rwa [Enc.len, big_eq] at this
theorem V_bdc {α : Type} {e : α → U} {es : List α → List U} {z : Nat} [E : Enc α e es z] {l : List α} {z' : Nat} {cs : List SV} (i j : Nat) (h : l.length ≤ 140737488355328 → V P A c ⟨fr, L, N⟩ Q) (hL : L[i]? = some (.box cs) := by rfl) (hb : cs[j]? = some (.d (.sl z' (es l))) := by rfl) : V P A c ⟨fr, L, N⟩ Q := by
  intro a w hr
  refine h ?_ a w hr
  obtain ⟨S, env, hH, hf, hN, hd⟩ := hr
  obtain ⟨hv, he⟩ : ∃ hv, env[i]? = some hv := ⟨_, List.getElem?_eq_getElem (by rw [hH.len]; exact (List.getElem?_eq_some_iff.1 hL).1)⟩
  obtain ⟨b, vals, e', r1, r2, r3, r4⟩ := hH.objs i _ hv hL he
  obtain ⟨v, v1, v2⟩ := SVrs.get r3 j _ hb
  have := (SVr.slice.1 v2).1
  rwa [Enc.len, big_eq] at this
end
/-- The like in a region that draws its order and holds more than quiet operations. -/
theorem goY {X Y : Prop} (hy : Y) (h : Y → X := by
    intro hy
    repeat (first | refine VY_r QR_len ?_ | refine VY_d rfl ?_ (by (repeat constructor); first | done | fail) | refine VY_h rfl (by repeat constructor) (by repeat (first | exact PfOk.nil | (apply PfOk.keep; focus ((repeat constructor); done)) | (apply PfOk.dep; focus kernel_rfl))) ?_)
    exact hy) : X := h hy
end Go.Eng
