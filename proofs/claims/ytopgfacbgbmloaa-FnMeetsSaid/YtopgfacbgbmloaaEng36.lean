/- The engine, part 35: the program's structs as Lean structures, how they stand as data. Written by a program of mine (gty.py). -/
import Derived.Test.YtopgfacbgbmloaaEng34
set_option linter.unusedVariables false
namespace Go.Eng
open Go Go.RowKit
def eInt (n : Int) : U := .i .i64 n
def eBool (b : Bool) : U := .b b
def eStr (s : List UInt8) : U := .s s
def eInts : List Int → List U
  | [] => []
  | a :: l => .i .i64 a :: eInts l
def eBools : List Bool → List U
  | [] => []
  | a :: l => .b a :: eBools l
def eStrs : List (List UInt8) → List U
  | [] => []
  | a :: l => .s a :: eStrs l
class Enc (α : Type) (e : outParam (α → U)) (es : outParam (List α → List U)) (z : outParam Nat) : Prop where
  h : ∀ l, es l = l.map e
  hz : ∀ x, (e x).sz = z
theorem Enc.get {α : Type} {e : α → U} {es : List α → List U} {z : Nat} [E : Enc α e es z] {l : List α} {k : Nat} {x : α} (h : l[k]? = some x) : (es l)[k]? = some (e x) := by rw [E.h, List.getElem?_map, h]; rfl
theorem Enc.len {α : Type} {e : α → U} {es : List α → List U} {z : Nat} [E : Enc α e es z] (l : List α) : (es l).length = l.length := by rw [E.h, List.length_map]
theorem Enc.app {α : Type} {e : α → U} {es : List α → List U} {z : Nat} [E : Enc α e es z] (l r : List α) : es (l ++ r) = es l ++ es r := by simp only [E.h, List.map_append]
theorem Enc.set {α : Type} {e : α → U} {es : List α → List U} {z : Nat} [E : Enc α e es z] (l : List α) (k : Nat) (x : α) : es (l.set k x) = (es l).set k (e x) := by simp only [E.h, List.map_set]
theorem Enc.rep {α : Type} {e : α → U} {es : List α → List U} {z : Nat} [E : Enc α e es z] (n : Nat) (x : α) : es (List.replicate n x) = List.replicate n (e x) := by simp only [E.h, List.map_replicate]
theorem Enc.all {α : Type} {e : α → U} {es : List α → List U} {z : Nat} [E : Enc α e es z] (l : List α) : ∀ u ∈ es l, u.sz = z := by
  rw [E.h]
  intro u hu
  obtain ⟨x, _, rfl⟩ := List.mem_map.1 hu
  exact E.hz x
instance : Enc Int eInt eInts 1 := ⟨fun l => by induction l with | nil => rfl | cons a l ih => simp [eInts, ih, eInt], fun _ => rfl⟩
instance : Enc Bool eBool eBools 1 := ⟨fun l => by induction l with | nil => rfl | cons a l ih => simp [eBools, ih, eBool], fun _ => rfl⟩
instance : Enc (List UInt8) eStr eStrs 1 := ⟨fun l => by induction l with | nil => rfl | cons a l ih => simp [eStrs, ih, eStr], fun _ => rfl⟩
theorem gInt {l : List Int} {k : Nat} {x : Int} (h : l[k]? = some x) : (eInts l)[k]? = some (.i .i64 x) := Enc.get h
theorem gBool {l : List Bool} {k : Nat} {x : Bool} (h : l[k]? = some x) : (eBools l)[k]? = some (.b x) := Enc.get h
theorem gStr {l : List (List UInt8)} {k : Nat} {x : List UInt8} (h : l[k]? = some x) : (eStrs l)[k]? = some (.s x) := Enc.get h
theorem eStrs_noSl (l : List (List UInt8)) : U.noSls (eStrs l) = true := by induction l with | nil => rfl | cons a l ih => simp [eStrs, U.noSls, U.noSl, ih]
theorem eInts_noSl (l : List Int) : U.noSls (eInts l) = true := by induction l with | nil => rfl | cons a l ih => simp [eInts, U.noSls, U.noSl, ih]

structure TSExpr where
  atom : List UInt8
  list : List TSExpr
mutual
def eSExpr : TSExpr → U
  | ⟨f0, f1⟩ => .st [.s f0, .sl 2 (eSExprs f1)]
def eSExprs : List TSExpr → List U
  | [] => []
  | a :: l => eSExpr a :: eSExprs l
end
theorem eSExpr_sz (x : TSExpr) : (eSExpr x).sz = 2 := by cases x; simp [eSExpr, U.sz, U.szs]
instance : Enc TSExpr eSExpr eSExprs 2 := ⟨fun l => by induction l with | nil => rfl | cons a l ih => simp [eSExprs, ih], eSExpr_sz⟩
theorem gSExpr {l : List TSExpr} {k : Nat} {x : TSExpr} (h : l[k]? = some x) : (eSExprs l)[k]? = some (eSExpr x) := Enc.get h
structure TType where
  kind : Int
  name : List UInt8
  args : List TType
mutual
def eType : TType → U
  | ⟨f0, f1, f2⟩ => .st [.i .i64 f0, .s f1, .sl 3 (eTypes f2)]
def eTypes : List TType → List U
  | [] => []
  | a :: l => eType a :: eTypes l
end
theorem eType_sz (x : TType) : (eType x).sz = 3 := by cases x; simp [eType, U.sz, U.szs]
instance : Enc TType eType eTypes 3 := ⟨fun l => by induction l with | nil => rfl | cons a l ih => simp [eTypes, ih], eType_sz⟩
theorem gType {l : List TType} {k : Nat} {x : TType} (h : l[k]? = some x) : (eTypes l)[k]? = some (eType x) := Enc.get h
structure TBinding where
  var_ : List UInt8
  type_ : TType
mutual
def eBinding : TBinding → U
  | ⟨f0, f1⟩ => .st [.s f0, eType f1]
def eBindings : List TBinding → List U
  | [] => []
  | a :: l => eBinding a :: eBindings l
end
theorem eBinding_sz (x : TBinding) : (eBinding x).sz = 4 := by cases x; simp [eBinding, U.sz, U.szs, eType_sz]
instance : Enc TBinding eBinding eBindings 4 := ⟨fun l => by induction l with | nil => rfl | cons a l ih => simp [eBindings, ih], eBinding_sz⟩
theorem gBinding {l : List TBinding} {k : Nat} {x : TBinding} (h : l[k]? = some x) : (eBindings l)[k]? = some (eBinding x) := Enc.get h
mutual
structure TArm where
  constructor : List UInt8
  vars : List (List UInt8)
  body : TExpr
structure TExpr where
  kind : Int
  trait : List UInt8
  name : List UInt8
  n : Int
  type_ : TType
  args : List TExpr
  arms : List TArm
end
mutual
def eArm : TArm → U
  | ⟨f0, f1, f2⟩ => .st [.s f0, .sl 1 (eStrs f1), eExpr f2]
def eArms : List TArm → List U
  | [] => []
  | a :: l => eArm a :: eArms l
def eExpr : TExpr → U
  | ⟨f0, f1, f2, f3, f4, f5, f6⟩ => .st [.i .i64 f0, .s f1, .s f2, .i .i64 f3, eType f4, .sl 9 (eExprs f5), .sl 11 (eArms f6)]
def eExprs : List TExpr → List U
  | [] => []
  | a :: l => eExpr a :: eExprs l
end
theorem eExpr_sz (x : TExpr) : (eExpr x).sz = 9 := by cases x; simp [eExpr, U.sz, U.szs, eType_sz]
instance : Enc TExpr eExpr eExprs 9 := ⟨fun l => by induction l with | nil => rfl | cons a l ih => simp [eExprs, ih], eExpr_sz⟩
theorem gExpr {l : List TExpr} {k : Nat} {x : TExpr} (h : l[k]? = some x) : (eExprs l)[k]? = some (eExpr x) := Enc.get h
theorem eArm_sz (x : TArm) : (eArm x).sz = 11 := by cases x; simp [eArm, U.sz, U.szs, eExpr_sz]
instance : Enc TArm eArm eArms 11 := ⟨fun l => by induction l with | nil => rfl | cons a l ih => simp [eArms, ih], eArm_sz⟩
theorem gArm {l : List TArm} {k : Nat} {x : TArm} (h : l[k]? = some x) : (eArms l)[k]? = some (eArm x) := Enc.get h
structure TSignature where
  name : List UInt8
  params : List TType
  result : TType
  hasDefault : Bool
  vars : List (List UInt8)
  body : TExpr
mutual
def eSignature : TSignature → U
  | ⟨f0, f1, f2, f3, f4, f5⟩ => .st [.s f0, .sl 3 (eTypes f1), eType f2, .b f3, .sl 1 (eStrs f4), eExpr f5]
def eSignatures : List TSignature → List U
  | [] => []
  | a :: l => eSignature a :: eSignatures l
end
theorem eSignature_sz (x : TSignature) : (eSignature x).sz = 16 := by cases x; simp [eSignature, U.sz, U.szs, eExpr_sz, eType_sz]
instance : Enc TSignature eSignature eSignatures 16 := ⟨fun l => by induction l with | nil => rfl | cons a l ih => simp [eSignatures, ih], eSignature_sz⟩
theorem gSignature {l : List TSignature} {k : Nat} {x : TSignature} (h : l[k]? = some x) : (eSignatures l)[k]? = some (eSignature x) := Enc.get h
structure TTrait where
  name : List UInt8
  supertraits : List (List UInt8)
  auto : Bool
  assoc : Bool
  signatures : List TSignature
mutual
def eTrait : TTrait → U
  | ⟨f0, f1, f2, f3, f4⟩ => .st [.s f0, .sl 1 (eStrs f1), .b f2, .b f3, .sl 16 (eSignatures f4)]
def eTraits : List TTrait → List U
  | [] => []
  | a :: l => eTrait a :: eTraits l
end
theorem eTrait_sz (x : TTrait) : (eTrait x).sz = 5 := by cases x; simp [eTrait, U.sz, U.szs]
instance : Enc TTrait eTrait eTraits 5 := ⟨fun l => by induction l with | nil => rfl | cons a l ih => simp [eTraits, ih], eTrait_sz⟩
theorem gTrait {l : List TTrait} {k : Nat} {x : TTrait} (h : l[k]? = some x) : (eTraits l)[k]? = some (eTrait x) := Enc.get h
structure TConstructor where
  name : List UInt8
  fields : List TType
mutual
def eConstructor : TConstructor → U
  | ⟨f0, f1⟩ => .st [.s f0, .sl 3 (eTypes f1)]
def eConstructors : List TConstructor → List U
  | [] => []
  | a :: l => eConstructor a :: eConstructors l
end
theorem eConstructor_sz (x : TConstructor) : (eConstructor x).sz = 2 := by cases x; simp [eConstructor, U.sz, U.szs]
instance : Enc TConstructor eConstructor eConstructors 2 := ⟨fun l => by induction l with | nil => rfl | cons a l ih => simp [eConstructors, ih], eConstructor_sz⟩
theorem gConstructor {l : List TConstructor} {k : Nat} {x : TConstructor} (h : l[k]? = some x) : (eConstructors l)[k]? = some (eConstructor x) := Enc.get h
structure TDataType where
  name : List UInt8
  vars : List (List UInt8)
  constructors : List TConstructor
mutual
def eDataType : TDataType → U
  | ⟨f0, f1, f2⟩ => .st [.s f0, .sl 1 (eStrs f1), .sl 2 (eConstructors f2)]
def eDataTypes : List TDataType → List U
  | [] => []
  | a :: l => eDataType a :: eDataTypes l
end
theorem eDataType_sz (x : TDataType) : (eDataType x).sz = 3 := by cases x; simp [eDataType, U.sz, U.szs]
instance : Enc TDataType eDataType eDataTypes 3 := ⟨fun l => by induction l with | nil => rfl | cons a l ih => simp [eDataTypes, ih], eDataType_sz⟩
theorem gDataType {l : List TDataType} {k : Nat} {x : TDataType} (h : l[k]? = some x) : (eDataTypes l)[k]? = some (eDataType x) := Enc.get h
structure TBound where
  trait : List UInt8
  type_ : TType
mutual
def eBound : TBound → U
  | ⟨f0, f1⟩ => .st [.s f0, eType f1]
def eBounds : List TBound → List U
  | [] => []
  | a :: l => eBound a :: eBounds l
end
theorem eBound_sz (x : TBound) : (eBound x).sz = 4 := by cases x; simp [eBound, U.sz, U.szs, eType_sz]
instance : Enc TBound eBound eBounds 4 := ⟨fun l => by induction l with | nil => rfl | cons a l ih => simp [eBounds, ih], eBound_sz⟩
theorem gBound {l : List TBound} {k : Nat} {x : TBound} (h : l[k]? = some x) : (eBounds l)[k]? = some (eBound x) := Enc.get h
structure TMethod where
  name : List UInt8
  vars : List (List UInt8)
  body : TExpr
mutual
def eMethod : TMethod → U
  | ⟨f0, f1, f2⟩ => .st [.s f0, .sl 1 (eStrs f1), eExpr f2]
def eMethods : List TMethod → List U
  | [] => []
  | a :: l => eMethod a :: eMethods l
end
theorem eMethod_sz (x : TMethod) : (eMethod x).sz = 11 := by cases x; simp [eMethod, U.sz, U.szs, eExpr_sz]
instance : Enc TMethod eMethod eMethods 11 := ⟨fun l => by induction l with | nil => rfl | cons a l ih => simp [eMethods, ih], eMethod_sz⟩
theorem gMethod {l : List TMethod} {k : Nat} {x : TMethod} (h : l[k]? = some x) : (eMethods l)[k]? = some (eMethod x) := Enc.get h
structure TInstance where
  trait : List UInt8
  vars : List (List UInt8)
  head : TType
  where_ : List TBound
  default_ : Bool
  hasAssoc : Bool
  assoc : TType
  methods : List TMethod
mutual
def eInstance : TInstance → U
  | ⟨f0, f1, f2, f3, f4, f5, f6, f7⟩ => .st [.s f0, .sl 1 (eStrs f1), eType f2, .sl 4 (eBounds f3), .b f4, .b f5, eType f6, .sl 11 (eMethods f7)]
def eInstances : List TInstance → List U
  | [] => []
  | a :: l => eInstance a :: eInstances l
end
theorem eInstance_sz (x : TInstance) : (eInstance x).sz = 12 := by cases x; simp [eInstance, U.sz, U.szs, eType_sz]
instance : Enc TInstance eInstance eInstances 12 := ⟨fun l => by induction l with | nil => rfl | cons a l ih => simp [eInstances, ih], eInstance_sz⟩
theorem gInstance {l : List TInstance} {k : Nat} {x : TInstance} (h : l[k]? = some x) : (eInstances l)[k]? = some (eInstance x) := Enc.get h
structure TParam where
  name : List UInt8
  type_ : TType
mutual
def eParam : TParam → U
  | ⟨f0, f1⟩ => .st [.s f0, eType f1]
def eParams : List TParam → List U
  | [] => []
  | a :: l => eParam a :: eParams l
end
theorem eParam_sz (x : TParam) : (eParam x).sz = 4 := by cases x; simp [eParam, U.sz, U.szs, eType_sz]
instance : Enc TParam eParam eParams 4 := ⟨fun l => by induction l with | nil => rfl | cons a l ih => simp [eParams, ih], eParam_sz⟩
theorem gParam {l : List TParam} {k : Nat} {x : TParam} (h : l[k]? = some x) : (eParams l)[k]? = some (eParam x) := Enc.get h
structure TFunction where
  name : List UInt8
  vars : List (List UInt8)
  where_ : List TBound
  params : List TParam
  result : TType
  body : TExpr
mutual
def eFunction : TFunction → U
  | ⟨f0, f1, f2, f3, f4, f5⟩ => .st [.s f0, .sl 1 (eStrs f1), .sl 4 (eBounds f2), .sl 4 (eParams f3), eType f4, eExpr f5]
def eFunctions : List TFunction → List U
  | [] => []
  | a :: l => eFunction a :: eFunctions l
end
theorem eFunction_sz (x : TFunction) : (eFunction x).sz = 16 := by cases x; simp [eFunction, U.sz, U.szs, eExpr_sz, eType_sz]
instance : Enc TFunction eFunction eFunctions 16 := ⟨fun l => by induction l with | nil => rfl | cons a l ih => simp [eFunctions, ih], eFunction_sz⟩
theorem gFunction {l : List TFunction} {k : Nat} {x : TFunction} (h : l[k]? = some x) : (eFunctions l)[k]? = some (eFunction x) := Enc.get h
structure TPackage where
  name : List UInt8
  deps : List (List UInt8)
  traits : List TTrait
  dataTypes : List TDataType
  instances : List TInstance
  functions : List TFunction
mutual
def ePackage : TPackage → U
  | ⟨f0, f1, f2, f3, f4, f5⟩ => .st [.s f0, .sl 1 (eStrs f1), .sl 5 (eTraits f2), .sl 3 (eDataTypes f3), .sl 12 (eInstances f4), .sl 16 (eFunctions f5)]
def ePackages : List TPackage → List U
  | [] => []
  | a :: l => ePackage a :: ePackages l
end
theorem ePackage_sz (x : TPackage) : (ePackage x).sz = 6 := by cases x; simp [ePackage, U.sz, U.szs]
instance : Enc TPackage ePackage ePackages 6 := ⟨fun l => by induction l with | nil => rfl | cons a l ih => simp [ePackages, ih], ePackage_sz⟩
theorem gPackage {l : List TPackage} {k : Nat} {x : TPackage} (h : l[k]? = some x) : (ePackages l)[k]? = some (ePackage x) := Enc.get h
structure TProgram where
  packages : List TPackage
mutual
def eProgram : TProgram → U
  | ⟨f0⟩ => .st [.sl 6 (ePackages f0)]
def ePrograms : List TProgram → List U
  | [] => []
  | a :: l => eProgram a :: ePrograms l
end
theorem eProgram_sz (x : TProgram) : (eProgram x).sz = 1 := by cases x; simp [eProgram, U.sz, U.szs]
instance : Enc TProgram eProgram ePrograms 1 := ⟨fun l => by induction l with | nil => rfl | cons a l ih => simp [ePrograms, ih], eProgram_sz⟩
theorem gProgram {l : List TProgram} {k : Nat} {x : TProgram} (h : l[k]? = some x) : (ePrograms l)[k]? = some (eProgram x) := Enc.get h
structure TInstanceRef where
  package : Int
  at_ : Int
mutual
def eInstanceRef : TInstanceRef → U
  | ⟨f0, f1⟩ => .st [.i .i64 f0, .i .i64 f1]
def eInstanceRefs : List TInstanceRef → List U
  | [] => []
  | a :: l => eInstanceRef a :: eInstanceRefs l
end
theorem eInstanceRef_sz (x : TInstanceRef) : (eInstanceRef x).sz = 2 := by cases x; simp [eInstanceRef, U.sz, U.szs]
instance : Enc TInstanceRef eInstanceRef eInstanceRefs 2 := ⟨fun l => by induction l with | nil => rfl | cons a l ih => simp [eInstanceRefs, ih], eInstanceRef_sz⟩
theorem gInstanceRef {l : List TInstanceRef} {k : Nat} {x : TInstanceRef} (h : l[k]? = some x) : (eInstanceRefs l)[k]? = some (eInstanceRef x) := Enc.get h
structure TAssumption where
  goal : TBound
  from_ : Int
  steps : List Int
mutual
def eAssumption : TAssumption → U
  | ⟨f0, f1, f2⟩ => .st [eBound f0, .i .i64 f1, .sl 1 (eInts f2)]
def eAssumptions : List TAssumption → List U
  | [] => []
  | a :: l => eAssumption a :: eAssumptions l
end
theorem eAssumption_sz (x : TAssumption) : (eAssumption x).sz = 6 := by cases x; simp [eAssumption, U.sz, U.szs, eBound_sz]
instance : Enc TAssumption eAssumption eAssumptions 6 := ⟨fun l => by induction l with | nil => rfl | cons a l ih => simp [eAssumptions, ih], eAssumption_sz⟩
theorem gAssumption {l : List TAssumption} {k : Nat} {x : TAssumption} (h : l[k]? = some x) : (eAssumptions l)[k]? = some (eAssumption x) := Enc.get h
structure TEvidence where
  kind : Int
  n : Int
  at_ : TInstanceRef
  args : List TEvidence
mutual
def eEvidence : TEvidence → U
  | ⟨f0, f1, f2, f3⟩ => .st [.i .i64 f0, .i .i64 f1, eInstanceRef f2, .sl 5 (eEvidences f3)]
def eEvidences : List TEvidence → List U
  | [] => []
  | a :: l => eEvidence a :: eEvidences l
end
theorem eEvidence_sz (x : TEvidence) : (eEvidence x).sz = 5 := by cases x; simp [eEvidence, U.sz, U.szs, eInstanceRef_sz]
instance : Enc TEvidence eEvidence eEvidences 5 := ⟨fun l => by induction l with | nil => rfl | cons a l ih => simp [eEvidences, ih], eEvidence_sz⟩
theorem gEvidence {l : List TEvidence} {k : Nat} {x : TEvidence} (h : l[k]? = some x) : (eEvidences l)[k]? = some (eEvidence x) := Enc.get h
structure TCache where
  goals : List TBound
  codes : List Int
  evidence : List TEvidence
mutual
def eCache : TCache → U
  | ⟨f0, f1, f2⟩ => .st [.sl 4 (eBounds f0), .sl 1 (eInts f1), .sl 5 (eEvidences f2)]
def eCaches : List TCache → List U
  | [] => []
  | a :: l => eCache a :: eCaches l
end
theorem eCache_sz (x : TCache) : (eCache x).sz = 3 := by cases x; simp [eCache, U.sz, U.szs]
instance : Enc TCache eCache eCaches 3 := ⟨fun l => by induction l with | nil => rfl | cons a l ih => simp [eCaches, ih], eCache_sz⟩
theorem gCache {l : List TCache} {k : Nat} {x : TCache} (h : l[k]? = some x) : (eCaches l)[k]? = some (eCache x) := Enc.get h
mutual
structure TCoreArm where
  constructor : List UInt8
  vars : List (List UInt8)
  body : TCore
structure TCore where
  kind : Int
  trait : List UInt8
  name : List UInt8
  n : Int
  type_ : TType
  typeArgs : List TType
  evidence : List TEvidence
  args : List TCore
  arms : List TCoreArm
end
mutual
def eCoreArm : TCoreArm → U
  | ⟨f0, f1, f2⟩ => .st [.s f0, .sl 1 (eStrs f1), eCore f2]
def eCoreArms : List TCoreArm → List U
  | [] => []
  | a :: l => eCoreArm a :: eCoreArms l
def eCore : TCore → U
  | ⟨f0, f1, f2, f3, f4, f5, f6, f7, f8⟩ => .st [.i .i64 f0, .s f1, .s f2, .i .i64 f3, eType f4, .sl 3 (eTypes f5), .sl 5 (eEvidences f6), .sl 11 (eCores f7), .sl 13 (eCoreArms f8)]
def eCores : List TCore → List U
  | [] => []
  | a :: l => eCore a :: eCores l
end
theorem eCore_sz (x : TCore) : (eCore x).sz = 11 := by cases x; simp [eCore, U.sz, U.szs, eType_sz]
instance : Enc TCore eCore eCores 11 := ⟨fun l => by induction l with | nil => rfl | cons a l ih => simp [eCores, ih], eCore_sz⟩
theorem gCore {l : List TCore} {k : Nat} {x : TCore} (h : l[k]? = some x) : (eCores l)[k]? = some (eCore x) := Enc.get h
theorem eCoreArm_sz (x : TCoreArm) : (eCoreArm x).sz = 13 := by cases x; simp [eCoreArm, U.sz, U.szs, eCore_sz]
instance : Enc TCoreArm eCoreArm eCoreArms 13 := ⟨fun l => by induction l with | nil => rfl | cons a l ih => simp [eCoreArms, ih], eCoreArm_sz⟩
theorem gCoreArm {l : List TCoreArm} {k : Nat} {x : TCoreArm} (h : l[k]? = some x) : (eCoreArms l)[k]? = some (eCoreArm x) := Enc.get h
structure TEquation where
  a : TType
  b : TType
  node : Int
mutual
def eEquation : TEquation → U
  | ⟨f0, f1, f2⟩ => .st [eType f0, eType f1, .i .i64 f2]
def eEquations : List TEquation → List U
  | [] => []
  | a :: l => eEquation a :: eEquations l
end
theorem eEquation_sz (x : TEquation) : (eEquation x).sz = 7 := by cases x; simp [eEquation, U.sz, U.szs, eType_sz]
instance : Enc TEquation eEquation eEquations 7 := ⟨fun l => by induction l with | nil => rfl | cons a l ih => simp [eEquations, ih], eEquation_sz⟩
theorem gEquation {l : List TEquation} {k : Nat} {x : TEquation} (h : l[k]? = some x) : (eEquations l)[k]? = some (eEquation x) := Enc.get h
structure TObligation where
  goal : TBound
  node : Int
mutual
def eObligation : TObligation → U
  | ⟨f0, f1⟩ => .st [eBound f0, .i .i64 f1]
def eObligations : List TObligation → List U
  | [] => []
  | a :: l => eObligation a :: eObligations l
end
theorem eObligation_sz (x : TObligation) : (eObligation x).sz = 5 := by cases x; simp [eObligation, U.sz, U.szs, eBound_sz]
instance : Enc TObligation eObligation eObligations 5 := ⟨fun l => by induction l with | nil => rfl | cons a l ih => simp [eObligations, ih], eObligation_sz⟩
theorem gObligation {l : List TObligation} {k : Nat} {x : TObligation} (h : l[k]? = some x) : (eObligations l)[k]? = some (eObligation x) := Enc.get h
structure TInferState where
  next : Int
  count : Int
  node : Int
  bindings : List TBinding
  equations : List TEquation
  obligations : List TObligation
  code : Int
  at_ : Int
mutual
def eInferState : TInferState → U
  | ⟨f0, f1, f2, f3, f4, f5, f6, f7⟩ => .st [.i .i64 f0, .i .i64 f1, .i .i64 f2, .sl 4 (eBindings f3), .sl 7 (eEquations f4), .sl 5 (eObligations f5), .i .i64 f6, .i .i64 f7]
def eInferStates : List TInferState → List U
  | [] => []
  | a :: l => eInferState a :: eInferStates l
end
theorem eInferState_sz (x : TInferState) : (eInferState x).sz = 8 := by cases x; simp [eInferState, U.sz, U.szs]
instance : Enc TInferState eInferState eInferStates 8 := ⟨fun l => by induction l with | nil => rfl | cons a l ih => simp [eInferStates, ih], eInferState_sz⟩
theorem gInferState {l : List TInferState} {k : Nat} {x : TInferState} (h : l[k]? = some x) : (eInferStates l)[k]? = some (eInferState x) := Enc.get h
structure TUnit where
  kind : Int
  package : Int
  at_ : Int
  sub : Int
  vars : List (List UInt8)
  where_ : List TBound
  params : List TParam
  result : TType
  body : TCore
mutual
def eUnit : TUnit → U
  | ⟨f0, f1, f2, f3, f4, f5, f6, f7, f8⟩ => .st [.i .i64 f0, .i .i64 f1, .i .i64 f2, .i .i64 f3, .sl 1 (eStrs f4), .sl 4 (eBounds f5), .sl 4 (eParams f6), eType f7, eCore f8]
def eUnits : List TUnit → List U
  | [] => []
  | a :: l => eUnit a :: eUnits l
end
theorem eUnit_sz (x : TUnit) : (eUnit x).sz = 21 := by cases x; simp [eUnit, U.sz, U.szs, eCore_sz, eType_sz]
instance : Enc TUnit eUnit eUnits 21 := ⟨fun l => by induction l with | nil => rfl | cons a l ih => simp [eUnits, ih], eUnit_sz⟩
theorem gUnit {l : List TUnit} {k : Nat} {x : TUnit} (h : l[k]? = some x) : (eUnits l)[k]? = some (eUnit x) := Enc.get h
structure TDictionary where
  kind : Int
  at_ : TInstanceRef
  steps : List Int
  args : List TDictionary
mutual
def eDictionary : TDictionary → U
  | ⟨f0, f1, f2, f3⟩ => .st [.i .i64 f0, eInstanceRef f1, .sl 1 (eInts f2), .sl 5 (eDictionarys f3)]
def eDictionarys : List TDictionary → List U
  | [] => []
  | a :: l => eDictionary a :: eDictionarys l
end
theorem eDictionary_sz (x : TDictionary) : (eDictionary x).sz = 5 := by cases x; simp [eDictionary, U.sz, U.szs, eInstanceRef_sz]
instance : Enc TDictionary eDictionary eDictionarys 5 := ⟨fun l => by induction l with | nil => rfl | cons a l ih => simp [eDictionarys, ih], eDictionary_sz⟩
theorem gDictionary {l : List TDictionary} {k : Nat} {x : TDictionary} (h : l[k]? = some x) : (eDictionarys l)[k]? = some (eDictionary x) := Enc.get h
structure TValue where
  kind : Int
  n : Int
  name : List UInt8
  dict : TDictionary
  args : List TValue
mutual
def eValue : TValue → U
  | ⟨f0, f1, f2, f3, f4⟩ => .st [.i .i64 f0, .i .i64 f1, .s f2, eDictionary f3, .sl 9 (eValues f4)]
def eValues : List TValue → List U
  | [] => []
  | a :: l => eValue a :: eValues l
end
theorem eValue_sz (x : TValue) : (eValue x).sz = 9 := by cases x; simp [eValue, U.sz, U.szs, eDictionary_sz]
instance : Enc TValue eValue eValues 9 := ⟨fun l => by induction l with | nil => rfl | cons a l ih => simp [eValues, ih], eValue_sz⟩
theorem gValue {l : List TValue} {k : Nat} {x : TValue} (h : l[k]? = some x) : (eValues l)[k]? = some (eValue x) := Enc.get h
structure TSpecialization where
  unit : Int
  typeArgs : List TType
  params : List (List UInt8)
  body : TCore
mutual
def eSpecialization : TSpecialization → U
  | ⟨f0, f1, f2, f3⟩ => .st [.i .i64 f0, .sl 3 (eTypes f1), .sl 1 (eStrs f2), eCore f3]
def eSpecializations : List TSpecialization → List U
  | [] => []
  | a :: l => eSpecialization a :: eSpecializations l
end
theorem eSpecialization_sz (x : TSpecialization) : (eSpecialization x).sz = 14 := by cases x; simp [eSpecialization, U.sz, U.szs, eCore_sz]
instance : Enc TSpecialization eSpecialization eSpecializations 14 := ⟨fun l => by induction l with | nil => rfl | cons a l ih => simp [eSpecializations, ih], eSpecialization_sz⟩
theorem gSpecialization {l : List TSpecialization} {k : Nat} {x : TSpecialization} (h : l[k]? = some x) : (eSpecializations l)[k]? = some (eSpecialization x) := Enc.get h
structure TMethodEntry where
  trait : List UInt8
  name : List UInt8
  specialization : Int
mutual
def eMethodEntry : TMethodEntry → U
  | ⟨f0, f1, f2⟩ => .st [.s f0, .s f1, .i .i64 f2]
def eMethodEntrys : List TMethodEntry → List U
  | [] => []
  | a :: l => eMethodEntry a :: eMethodEntrys l
end
theorem eMethodEntry_sz (x : TMethodEntry) : (eMethodEntry x).sz = 3 := by cases x; simp [eMethodEntry, U.sz, U.szs]
instance : Enc TMethodEntry eMethodEntry eMethodEntrys 3 := ⟨fun l => by induction l with | nil => rfl | cons a l ih => simp [eMethodEntrys, ih], eMethodEntry_sz⟩
theorem gMethodEntry {l : List TMethodEntry} {k : Nat} {x : TMethodEntry} (h : l[k]? = some x) : (eMethodEntrys l)[k]? = some (eMethodEntry x) := Enc.get h
structure TMethodTable where
  trait : List UInt8
  type_ : TType
  entries : List TMethodEntry
mutual
def eMethodTable : TMethodTable → U
  | ⟨f0, f1, f2⟩ => .st [.s f0, eType f1, .sl 3 (eMethodEntrys f2)]
def eMethodTables : List TMethodTable → List U
  | [] => []
  | a :: l => eMethodTable a :: eMethodTables l
end
theorem eMethodTable_sz (x : TMethodTable) : (eMethodTable x).sz = 5 := by cases x; simp [eMethodTable, U.sz, U.szs, eType_sz]
instance : Enc TMethodTable eMethodTable eMethodTables 5 := ⟨fun l => by induction l with | nil => rfl | cons a l ih => simp [eMethodTables, ih], eMethodTable_sz⟩
theorem gMethodTable {l : List TMethodTable} {k : Nat} {x : TMethodTable} (h : l[k]? = some x) : (eMethodTables l)[k]? = some (eMethodTable x) := Enc.get h
structure TMonoProgram where
  specializations : List TSpecialization
  tables : List TMethodTable
mutual
def eMonoProgram : TMonoProgram → U
  | ⟨f0, f1⟩ => .st [.sl 14 (eSpecializations f0), .sl 5 (eMethodTables f1)]
def eMonoPrograms : List TMonoProgram → List U
  | [] => []
  | a :: l => eMonoProgram a :: eMonoPrograms l
end
theorem eMonoProgram_sz (x : TMonoProgram) : (eMonoProgram x).sz = 2 := by cases x; simp [eMonoProgram, U.sz, U.szs]
instance : Enc TMonoProgram eMonoProgram eMonoPrograms 2 := ⟨fun l => by induction l with | nil => rfl | cons a l ih => simp [eMonoPrograms, ih], eMonoProgram_sz⟩
theorem gMonoProgram {l : List TMonoProgram} {k : Nat} {x : TMonoProgram} (h : l[k]? = some x) : (eMonoPrograms l)[k]? = some (eMonoProgram x) := Enc.get h
structure TInstr where
  op : Int
  a : Int
  b : Int
  trait : List UInt8
  name : List UInt8
mutual
def eInstr : TInstr → U
  | ⟨f0, f1, f2, f3, f4⟩ => .st [.i .i64 f0, .i .i64 f1, .i .i64 f2, .s f3, .s f4]
def eInstrs : List TInstr → List U
  | [] => []
  | a :: l => eInstr a :: eInstrs l
end
theorem eInstr_sz (x : TInstr) : (eInstr x).sz = 5 := by cases x; simp [eInstr, U.sz, U.szs]
instance : Enc TInstr eInstr eInstrs 5 := ⟨fun l => by induction l with | nil => rfl | cons a l ih => simp [eInstrs, ih], eInstr_sz⟩
theorem gInstr {l : List TInstr} {k : Nat} {x : TInstr} (h : l[k]? = some x) : (eInstrs l)[k]? = some (eInstr x) := Enc.get h
structure TCode where
  params : Int
  list : List TInstr
mutual
def eCode : TCode → U
  | ⟨f0, f1⟩ => .st [.i .i64 f0, .sl 5 (eInstrs f1)]
def eCodes : List TCode → List U
  | [] => []
  | a :: l => eCode a :: eCodes l
end
theorem eCode_sz (x : TCode) : (eCode x).sz = 2 := by cases x; simp [eCode, U.sz, U.szs]
instance : Enc TCode eCode eCodes 2 := ⟨fun l => by induction l with | nil => rfl | cons a l ih => simp [eCodes, ih], eCode_sz⟩
theorem gCode {l : List TCode} {k : Nat} {x : TCode} (h : l[k]? = some x) : (eCodes l)[k]? = some (eCode x) := Enc.get h
structure TMachine where
  codes : List TCode
  tables : List TMethodTable
mutual
def eMachine : TMachine → U
  | ⟨f0, f1⟩ => .st [.sl 2 (eCodes f0), .sl 5 (eMethodTables f1)]
def eMachines : List TMachine → List U
  | [] => []
  | a :: l => eMachine a :: eMachines l
end
theorem eMachine_sz (x : TMachine) : (eMachine x).sz = 2 := by cases x; simp [eMachine, U.sz, U.szs]
instance : Enc TMachine eMachine eMachines 2 := ⟨fun l => by induction l with | nil => rfl | cons a l ih => simp [eMachines, ih], eMachine_sz⟩
theorem gMachine {l : List TMachine} {k : Nat} {x : TMachine} (h : l[k]? = some x) : (eMachines l)[k]? = some (eMachine x) := Enc.get h
structure TFrame where
  code : Int
  at_ : Int
  base : Int
  slots : List TValue
mutual
def eFrame : TFrame → U
  | ⟨f0, f1, f2, f3⟩ => .st [.i .i64 f0, .i .i64 f1, .i .i64 f2, .sl 9 (eValues f3)]
def eFrames : List TFrame → List U
  | [] => []
  | a :: l => eFrame a :: eFrames l
end
theorem eFrame_sz (x : TFrame) : (eFrame x).sz = 4 := by cases x; simp [eFrame, U.sz, U.szs]
instance : Enc TFrame eFrame eFrames 4 := ⟨fun l => by induction l with | nil => rfl | cons a l ih => simp [eFrames, ih], eFrame_sz⟩
theorem gFrame {l : List TFrame} {k : Nat} {x : TFrame} (h : l[k]? = some x) : (eFrames l)[k]? = some (eFrame x) := Enc.get h
structure TVM where
  stack : List TValue
  frames : List TFrame
  calls : Int
  code : Int
  done : Bool
mutual
def eVM : TVM → U
  | ⟨f0, f1, f2, f3, f4⟩ => .st [.sl 9 (eValues f0), .sl 4 (eFrames f1), .i .i64 f2, .i .i64 f3, .b f4]
def eVMs : List TVM → List U
  | [] => []
  | a :: l => eVM a :: eVMs l
end
theorem eVM_sz (x : TVM) : (eVM x).sz = 5 := by cases x; simp [eVM, U.sz, U.szs]
instance : Enc TVM eVM eVMs 5 := ⟨fun l => by induction l with | nil => rfl | cons a l ih => simp [eVMs, ih], eVM_sz⟩
theorem gVM {l : List TVM} {k : Nat} {x : TVM} (h : l[k]? = some x) : (eVMs l)[k]? = some (eVM x) := Enc.get h
structure TUnitError where
  kind : Int
  package : Int
  at_ : Int
  sub : Int
  code : Int
  node : Int
mutual
def eUnitError : TUnitError → U
  | ⟨f0, f1, f2, f3, f4, f5⟩ => .st [.i .i64 f0, .i .i64 f1, .i .i64 f2, .i .i64 f3, .i .i64 f4, .i .i64 f5]
def eUnitErrors : List TUnitError → List U
  | [] => []
  | a :: l => eUnitError a :: eUnitErrors l
end
theorem eUnitError_sz (x : TUnitError) : (eUnitError x).sz = 6 := by cases x; simp [eUnitError, U.sz, U.szs]
instance : Enc TUnitError eUnitError eUnitErrors 6 := ⟨fun l => by induction l with | nil => rfl | cons a l ih => simp [eUnitErrors, ih], eUnitError_sz⟩
theorem gUnitError {l : List TUnitError} {k : Nat} {x : TUnitError} (h : l[k]? = some x) : (eUnitErrors l)[k]? = some (eUnitError x) := Enc.get h
structure TBuiltPackage where
  name : List UInt8
  key : List UInt8
  units : List TUnit
  errors : List TUnitError
mutual
def eBuiltPackage : TBuiltPackage → U
  | ⟨f0, f1, f2, f3⟩ => .st [.s f0, .s f1, .sl 21 (eUnits f2), .sl 6 (eUnitErrors f3)]
def eBuiltPackages : List TBuiltPackage → List U
  | [] => []
  | a :: l => eBuiltPackage a :: eBuiltPackages l
end
theorem eBuiltPackage_sz (x : TBuiltPackage) : (eBuiltPackage x).sz = 4 := by cases x; simp [eBuiltPackage, U.sz, U.szs]
instance : Enc TBuiltPackage eBuiltPackage eBuiltPackages 4 := ⟨fun l => by induction l with | nil => rfl | cons a l ih => simp [eBuiltPackages, ih], eBuiltPackage_sz⟩
theorem gBuiltPackage {l : List TBuiltPackage} {k : Nat} {x : TBuiltPackage} (h : l[k]? = some x) : (eBuiltPackages l)[k]? = some (eBuiltPackage x) := Enc.get h
structure TBuild where
  packages : List TBuiltPackage
mutual
def eBuild : TBuild → U
  | ⟨f0⟩ => .st [.sl 4 (eBuiltPackages f0)]
def eBuilds : List TBuild → List U
  | [] => []
  | a :: l => eBuild a :: eBuilds l
end
theorem eBuild_sz (x : TBuild) : (eBuild x).sz = 1 := by cases x; simp [eBuild, U.sz, U.szs]
instance : Enc TBuild eBuild eBuilds 1 := ⟨fun l => by induction l with | nil => rfl | cons a l ih => simp [eBuilds, ih], eBuild_sz⟩
theorem gBuild {l : List TBuild} {k : Nat} {x : TBuild} (h : l[k]? = some x) : (eBuilds l)[k]? = some (eBuild x) := Enc.get h
end Go.Eng
set_option linter.unusedVariables false
set_option linter.unusedSimpArgs false
namespace Go.Eng
open Go Go.RowKit

theorem lt_x {α β : Type} {v : α} {k : α → β} {r : β} (h : lt_ v k = r) : ∃ x, v = x ∧ k x = r := ⟨v, rfl, h⟩
theorem klt {α : Type} {e : α → U} {es : List α → List U} {z : Nat} [E : Enc α e es z] {l : List α} {k : Nat} (h : decide ((k : Int) < ((es l).length : Int)) = true) : k < l.length := by
  have h := of_decide_eq_true h
  rw [E.h, List.length_map] at h
  omega
theorem kge {α : Type} {e : α → U} {es : List α → List U} {z : Nat} [E : Enc α e es z] {l : List α} {k : Nat} (h : decide ((k : Int) < ((es l).length : Int)) = false) : l.length ≤ k := by
  have h := of_decide_eq_false h
  rw [E.h, List.length_map] at h
  omega
section
variable {l : List UInt8} {k n : Nat}
theorem kltS (h : decide ((k : Int) < (l.length : Int)) = true) : k < l.length := by have h := of_decide_eq_true h; omega
theorem kgeS (h : decide ((k : Int) < (l.length : Int)) = false) : l.length ≤ k := by have h := of_decide_eq_false h; omega
theorem kltN (h : decide ((k : Int) < (n : Int)) = true) : k < n := by have h := of_decide_eq_true h; omega
theorem kgeN (h : decide ((k : Int) < (n : Int)) = false) : n ≤ k := by have h := of_decide_eq_false h; omega
end

section
variable {P : Program} {A : Amb} {ops : Array Oper} {K : St → Prop} {Q : Exit → St → Prop} {rest : List Oper} {σ : St} {c : Code}
theorem VO_join (σJ : St) (h1 : VO P A ops rest σ (fun s => Le s σJ)) (h2 : K σJ) (hA : A.L0.length ≤ σJ.L.length := by rw [BaseN.h (A := A)]; exact Nat.le_of_ble_eq_true rfl) : VO P A ops rest σ K :=
  fun R hR a w hr => h1 R (fun σ' a' w' hle hr' => hR σJ a' w' h2 (hr'.le hle hA)) a w hr
theorem V_seqJ {x y : Code} (σJ : St) (h1 : V P A x σ (thenS (fun s => Le s σJ) Q)) (h2 : V P A y σJ Q) (hA : A.L0.length ≤ σJ.L.length := by rw [BaseN.h (A := A)]; exact Nat.le_of_ble_eq_true rfl) : V P A (.seq x y) σ Q :=
  V_seq (V.mono h1 (fun e s hq => by
    cases e with
    | normal => exact V_le hq h2 hA
    | _ => exact hq))
theorem V_loop1 {α0 : Type} (I : α0 → St) (J : α0 → Prop) (μ : α0 → Nat) (x0 : α0) (h0 : Le σ (I x0)) (hJ : J x0)
    (round : ∀ a0, J a0 → V P A c (I a0) (thenS (fun s => ∃ b0, J b0 ∧ μ b0 < μ a0 ∧ Le s (I b0)) Q)) (hA : ∀ a0, A.L0.length ≤ (I a0).L.length := by intros; rw [BaseN.h (A := A)]; exact Nat.le_of_ble_eq_true rfl) : V P A (.loop c) σ Q :=
  V_loop (α := α0) (fun x => I (x)) (fun x => J (x)) (fun x => μ (x)) (x0) h0 hJ (fun x hx => V.mono (round (x) hx) (fun e s hq => by
    cases e with
    | normal =>
      obtain ⟨b0, h1, h2, h3⟩ := hq
      exact ⟨(b0), h1, h2, h3⟩
    | _ => exact hq)) (fun x => hA (x))
theorem V_loop2 {α0 α1 : Type} (I : α0 → α1 → St) (J : α0 → α1 → Prop) (μ : α0 → α1 → Nat) (x0 : α0) (x1 : α1) (h0 : Le σ (I x0 x1)) (hJ : J x0 x1)
    (round : ∀ a0 a1, J a0 a1 → V P A c (I a0 a1) (thenS (fun s => ∃ b0 b1, J b0 b1 ∧ μ b0 b1 < μ a0 a1 ∧ Le s (I b0 b1)) Q)) (hA : ∀ a0 a1, A.L0.length ≤ (I a0 a1).L.length := by intros; rw [BaseN.h (A := A)]; exact Nat.le_of_ble_eq_true rfl) : V P A (.loop c) σ Q :=
  V_loop (α := α0 × α1) (fun x => I (x.1) (x.2)) (fun x => J (x.1) (x.2)) (fun x => μ (x.1) (x.2)) (x0, x1) h0 hJ (fun x hx => V.mono (round (x.1) (x.2) hx) (fun e s hq => by
    cases e with
    | normal =>
      obtain ⟨b0, b1, h1, h2, h3⟩ := hq
      exact ⟨(b0, b1), h1, h2, h3⟩
    | _ => exact hq)) (fun x => hA (x.1) (x.2))
theorem V_loop3 {α0 α1 α2 : Type} (I : α0 → α1 → α2 → St) (J : α0 → α1 → α2 → Prop) (μ : α0 → α1 → α2 → Nat) (x0 : α0) (x1 : α1) (x2 : α2) (h0 : Le σ (I x0 x1 x2)) (hJ : J x0 x1 x2)
    (round : ∀ a0 a1 a2, J a0 a1 a2 → V P A c (I a0 a1 a2) (thenS (fun s => ∃ b0 b1 b2, J b0 b1 b2 ∧ μ b0 b1 b2 < μ a0 a1 a2 ∧ Le s (I b0 b1 b2)) Q)) (hA : ∀ a0 a1 a2, A.L0.length ≤ (I a0 a1 a2).L.length := by intros; rw [BaseN.h (A := A)]; exact Nat.le_of_ble_eq_true rfl) : V P A (.loop c) σ Q :=
  V_loop (α := α0 × α1 × α2) (fun x => I (x.1) (x.2.1) (x.2.2)) (fun x => J (x.1) (x.2.1) (x.2.2)) (fun x => μ (x.1) (x.2.1) (x.2.2)) (x0, x1, x2) h0 hJ (fun x hx => V.mono (round (x.1) (x.2.1) (x.2.2) hx) (fun e s hq => by
    cases e with
    | normal =>
      obtain ⟨b0, b1, b2, h1, h2, h3⟩ := hq
      exact ⟨(b0, b1, b2), h1, h2, h3⟩
    | _ => exact hq)) (fun x => hA (x.1) (x.2.1) (x.2.2))
theorem V_loop4 {α0 α1 α2 α3 : Type} (I : α0 → α1 → α2 → α3 → St) (J : α0 → α1 → α2 → α3 → Prop) (μ : α0 → α1 → α2 → α3 → Nat) (x0 : α0) (x1 : α1) (x2 : α2) (x3 : α3) (h0 : Le σ (I x0 x1 x2 x3)) (hJ : J x0 x1 x2 x3)
    (round : ∀ a0 a1 a2 a3, J a0 a1 a2 a3 → V P A c (I a0 a1 a2 a3) (thenS (fun s => ∃ b0 b1 b2 b3, J b0 b1 b2 b3 ∧ μ b0 b1 b2 b3 < μ a0 a1 a2 a3 ∧ Le s (I b0 b1 b2 b3)) Q)) (hA : ∀ a0 a1 a2 a3, A.L0.length ≤ (I a0 a1 a2 a3).L.length := by intros; rw [BaseN.h (A := A)]; exact Nat.le_of_ble_eq_true rfl) : V P A (.loop c) σ Q :=
  V_loop (α := α0 × α1 × α2 × α3) (fun x => I (x.1) (x.2.1) (x.2.2.1) (x.2.2.2)) (fun x => J (x.1) (x.2.1) (x.2.2.1) (x.2.2.2)) (fun x => μ (x.1) (x.2.1) (x.2.2.1) (x.2.2.2)) (x0, x1, x2, x3) h0 hJ (fun x hx => V.mono (round (x.1) (x.2.1) (x.2.2.1) (x.2.2.2) hx) (fun e s hq => by
    cases e with
    | normal =>
      obtain ⟨b0, b1, b2, b3, h1, h2, h3⟩ := hq
      exact ⟨(b0, b1, b2, b3), h1, h2, h3⟩
    | _ => exact hq)) (fun x => hA (x.1) (x.2.1) (x.2.2.1) (x.2.2.2))
theorem V_loop5 {α0 α1 α2 α3 α4 : Type} (I : α0 → α1 → α2 → α3 → α4 → St) (J : α0 → α1 → α2 → α3 → α4 → Prop) (μ : α0 → α1 → α2 → α3 → α4 → Nat) (x0 : α0) (x1 : α1) (x2 : α2) (x3 : α3) (x4 : α4) (h0 : Le σ (I x0 x1 x2 x3 x4)) (hJ : J x0 x1 x2 x3 x4)
    (round : ∀ a0 a1 a2 a3 a4, J a0 a1 a2 a3 a4 → V P A c (I a0 a1 a2 a3 a4) (thenS (fun s => ∃ b0 b1 b2 b3 b4, J b0 b1 b2 b3 b4 ∧ μ b0 b1 b2 b3 b4 < μ a0 a1 a2 a3 a4 ∧ Le s (I b0 b1 b2 b3 b4)) Q)) (hA : ∀ a0 a1 a2 a3 a4, A.L0.length ≤ (I a0 a1 a2 a3 a4).L.length := by intros; rw [BaseN.h (A := A)]; exact Nat.le_of_ble_eq_true rfl) : V P A (.loop c) σ Q :=
  V_loop (α := α0 × α1 × α2 × α3 × α4) (fun x => I (x.1) (x.2.1) (x.2.2.1) (x.2.2.2.1) (x.2.2.2.2)) (fun x => J (x.1) (x.2.1) (x.2.2.1) (x.2.2.2.1) (x.2.2.2.2)) (fun x => μ (x.1) (x.2.1) (x.2.2.1) (x.2.2.2.1) (x.2.2.2.2)) (x0, x1, x2, x3, x4) h0 hJ (fun x hx => V.mono (round (x.1) (x.2.1) (x.2.2.1) (x.2.2.2.1) (x.2.2.2.2) hx) (fun e s hq => by
    cases e with
    | normal =>
      obtain ⟨b0, b1, b2, b3, b4, h1, h2, h3⟩ := hq
      exact ⟨(b0, b1, b2, b3, b4), h1, h2, h3⟩
    | _ => exact hq)) (fun x => hA (x.1) (x.2.1) (x.2.2.1) (x.2.2.2.1) (x.2.2.2.2))
theorem V_loop6 {α0 α1 α2 α3 α4 α5 : Type} (I : α0 → α1 → α2 → α3 → α4 → α5 → St) (J : α0 → α1 → α2 → α3 → α4 → α5 → Prop) (μ : α0 → α1 → α2 → α3 → α4 → α5 → Nat) (x0 : α0) (x1 : α1) (x2 : α2) (x3 : α3) (x4 : α4) (x5 : α5) (h0 : Le σ (I x0 x1 x2 x3 x4 x5)) (hJ : J x0 x1 x2 x3 x4 x5)
    (round : ∀ a0 a1 a2 a3 a4 a5, J a0 a1 a2 a3 a4 a5 → V P A c (I a0 a1 a2 a3 a4 a5) (thenS (fun s => ∃ b0 b1 b2 b3 b4 b5, J b0 b1 b2 b3 b4 b5 ∧ μ b0 b1 b2 b3 b4 b5 < μ a0 a1 a2 a3 a4 a5 ∧ Le s (I b0 b1 b2 b3 b4 b5)) Q)) (hA : ∀ a0 a1 a2 a3 a4 a5, A.L0.length ≤ (I a0 a1 a2 a3 a4 a5).L.length := by intros; rw [BaseN.h (A := A)]; exact Nat.le_of_ble_eq_true rfl) : V P A (.loop c) σ Q :=
  V_loop (α := α0 × α1 × α2 × α3 × α4 × α5) (fun x => I (x.1) (x.2.1) (x.2.2.1) (x.2.2.2.1) (x.2.2.2.2.1) (x.2.2.2.2.2)) (fun x => J (x.1) (x.2.1) (x.2.2.1) (x.2.2.2.1) (x.2.2.2.2.1) (x.2.2.2.2.2)) (fun x => μ (x.1) (x.2.1) (x.2.2.1) (x.2.2.2.1) (x.2.2.2.2.1) (x.2.2.2.2.2)) (x0, x1, x2, x3, x4, x5) h0 hJ (fun x hx => V.mono (round (x.1) (x.2.1) (x.2.2.1) (x.2.2.2.1) (x.2.2.2.2.1) (x.2.2.2.2.2) hx) (fun e s hq => by
    cases e with
    | normal =>
      obtain ⟨b0, b1, b2, b3, b4, b5, h1, h2, h3⟩ := hq
      exact ⟨(b0, b1, b2, b3, b4, b5), h1, h2, h3⟩
    | _ => exact hq)) (fun x => hA (x.1) (x.2.1) (x.2.2.1) (x.2.2.2.1) (x.2.2.2.2.1) (x.2.2.2.2.2))
theorem V_loop7 {α0 α1 α2 α3 α4 α5 α6 : Type} (I : α0 → α1 → α2 → α3 → α4 → α5 → α6 → St) (J : α0 → α1 → α2 → α3 → α4 → α5 → α6 → Prop) (μ : α0 → α1 → α2 → α3 → α4 → α5 → α6 → Nat) (x0 : α0) (x1 : α1) (x2 : α2) (x3 : α3) (x4 : α4) (x5 : α5) (x6 : α6) (h0 : Le σ (I x0 x1 x2 x3 x4 x5 x6)) (hJ : J x0 x1 x2 x3 x4 x5 x6)
    (round : ∀ a0 a1 a2 a3 a4 a5 a6, J a0 a1 a2 a3 a4 a5 a6 → V P A c (I a0 a1 a2 a3 a4 a5 a6) (thenS (fun s => ∃ b0 b1 b2 b3 b4 b5 b6, J b0 b1 b2 b3 b4 b5 b6 ∧ μ b0 b1 b2 b3 b4 b5 b6 < μ a0 a1 a2 a3 a4 a5 a6 ∧ Le s (I b0 b1 b2 b3 b4 b5 b6)) Q)) (hA : ∀ a0 a1 a2 a3 a4 a5 a6, A.L0.length ≤ (I a0 a1 a2 a3 a4 a5 a6).L.length := by intros; rw [BaseN.h (A := A)]; exact Nat.le_of_ble_eq_true rfl) : V P A (.loop c) σ Q :=
  V_loop (α := α0 × α1 × α2 × α3 × α4 × α5 × α6) (fun x => I (x.1) (x.2.1) (x.2.2.1) (x.2.2.2.1) (x.2.2.2.2.1) (x.2.2.2.2.2.1) (x.2.2.2.2.2.2)) (fun x => J (x.1) (x.2.1) (x.2.2.1) (x.2.2.2.1) (x.2.2.2.2.1) (x.2.2.2.2.2.1) (x.2.2.2.2.2.2)) (fun x => μ (x.1) (x.2.1) (x.2.2.1) (x.2.2.2.1) (x.2.2.2.2.1) (x.2.2.2.2.2.1) (x.2.2.2.2.2.2)) (x0, x1, x2, x3, x4, x5, x6) h0 hJ (fun x hx => V.mono (round (x.1) (x.2.1) (x.2.2.1) (x.2.2.2.1) (x.2.2.2.2.1) (x.2.2.2.2.2.1) (x.2.2.2.2.2.2) hx) (fun e s hq => by
    cases e with
    | normal =>
      obtain ⟨b0, b1, b2, b3, b4, b5, b6, h1, h2, h3⟩ := hq
      exact ⟨(b0, b1, b2, b3, b4, b5, b6), h1, h2, h3⟩
    | _ => exact hq)) (fun x => hA (x.1) (x.2.1) (x.2.2.1) (x.2.2.2.1) (x.2.2.2.2.1) (x.2.2.2.2.2.1) (x.2.2.2.2.2.2))
theorem V_loop8 {α0 α1 α2 α3 α4 α5 α6 α7 : Type} (I : α0 → α1 → α2 → α3 → α4 → α5 → α6 → α7 → St) (J : α0 → α1 → α2 → α3 → α4 → α5 → α6 → α7 → Prop) (μ : α0 → α1 → α2 → α3 → α4 → α5 → α6 → α7 → Nat) (x0 : α0) (x1 : α1) (x2 : α2) (x3 : α3) (x4 : α4) (x5 : α5) (x6 : α6) (x7 : α7) (h0 : Le σ (I x0 x1 x2 x3 x4 x5 x6 x7)) (hJ : J x0 x1 x2 x3 x4 x5 x6 x7)
    (round : ∀ a0 a1 a2 a3 a4 a5 a6 a7, J a0 a1 a2 a3 a4 a5 a6 a7 → V P A c (I a0 a1 a2 a3 a4 a5 a6 a7) (thenS (fun s => ∃ b0 b1 b2 b3 b4 b5 b6 b7, J b0 b1 b2 b3 b4 b5 b6 b7 ∧ μ b0 b1 b2 b3 b4 b5 b6 b7 < μ a0 a1 a2 a3 a4 a5 a6 a7 ∧ Le s (I b0 b1 b2 b3 b4 b5 b6 b7)) Q)) (hA : ∀ a0 a1 a2 a3 a4 a5 a6 a7, A.L0.length ≤ (I a0 a1 a2 a3 a4 a5 a6 a7).L.length := by intros; rw [BaseN.h (A := A)]; exact Nat.le_of_ble_eq_true rfl) : V P A (.loop c) σ Q :=
  V_loop (α := α0 × α1 × α2 × α3 × α4 × α5 × α6 × α7) (fun x => I (x.1) (x.2.1) (x.2.2.1) (x.2.2.2.1) (x.2.2.2.2.1) (x.2.2.2.2.2.1) (x.2.2.2.2.2.2.1) (x.2.2.2.2.2.2.2)) (fun x => J (x.1) (x.2.1) (x.2.2.1) (x.2.2.2.1) (x.2.2.2.2.1) (x.2.2.2.2.2.1) (x.2.2.2.2.2.2.1) (x.2.2.2.2.2.2.2)) (fun x => μ (x.1) (x.2.1) (x.2.2.1) (x.2.2.2.1) (x.2.2.2.2.1) (x.2.2.2.2.2.1) (x.2.2.2.2.2.2.1) (x.2.2.2.2.2.2.2)) (x0, x1, x2, x3, x4, x5, x6, x7) h0 hJ (fun x hx => V.mono (round (x.1) (x.2.1) (x.2.2.1) (x.2.2.2.1) (x.2.2.2.2.1) (x.2.2.2.2.2.1) (x.2.2.2.2.2.2.1) (x.2.2.2.2.2.2.2) hx) (fun e s hq => by
    cases e with
    | normal =>
      obtain ⟨b0, b1, b2, b3, b4, b5, b6, b7, h1, h2, h3⟩ := hq
      exact ⟨(b0, b1, b2, b3, b4, b5, b6, b7), h1, h2, h3⟩
    | _ => exact hq)) (fun x => hA (x.1) (x.2.1) (x.2.2.1) (x.2.2.2.1) (x.2.2.2.2.1) (x.2.2.2.2.2.1) (x.2.2.2.2.2.2.1) (x.2.2.2.2.2.2.2))
end
end Go.Eng
