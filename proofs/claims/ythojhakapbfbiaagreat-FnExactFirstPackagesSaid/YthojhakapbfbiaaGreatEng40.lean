/- The engine, part 34: rules in a compact form, for walks written by program. -/
import Derived.Test.YthojhakapbfbiaaGreatEng33
import Derived.KernelRfl
set_option linter.unusedVariables false
set_option linter.unusedSimpArgs false
namespace Go.Eng
open Go Go.RowKit
class Mix (P : Program) : Prop where
  h : P.follows .mixedOrders = true
theorem V_seqseq {P : Program} {A : Amb} {σ : St} {Q : Exit → St → Prop} {x y z : Code} (h : V P A (.seq x y) σ (thenS (fun s => V P A z s Q) Q)) : V P A (.seq (.seq x y) z) σ Q := V_seq h
/-! ### models -/
def cnd {α : Type} (c : Bool) (x y : α) : α := match c with
  | true => x
  | false => y
def bnd {α β : Type} (o : Option α) (k : α → Option β) : Option β := match o with
  | some x => k x
  | none => none
def lt_ {α β : Type} (x : α) (k : α → β) : β := k x
def gd {α : Type} (c : Prop) [Decidable c] (k : Option α) : Option α := if c then k else none
theorem cnd_t {α : Type} {c : Bool} {x y r : α} (hc : c = true) (h : cnd c x y = r) : x = r := by subst hc; exact h
theorem cnd_f {α : Type} {c : Bool} {x y r : α} (hc : c = false) (h : cnd c x y = r) : y = r := by subst hc; exact h
theorem bnd_s {α β : Type} {o : Option α} {k : α → Option β} {r : β} (h : bnd o k = some r) : ∃ x, o = some x ∧ k x = some r := by
  cases o with
  | none => cases h
  | some x => exact ⟨x, rfl, h⟩
theorem gd_s {α : Type} {c : Prop} [Decidable c] {k : Option α} {r : α} (h : gd c k = some r) : c ∧ k = some r := by
  unfold gd at h
  split at h
  · exact ⟨by assumption, h⟩
  · cases h
theorem gd_eq {α : Type} {c : Prop} [Decidable c] {k : Option α} (hc : c) : gd c k = k := by unfold gd; rw [if_pos hc]
theorem drop_at {α : Type} {l : List α} {k : Nat} (h : k < l.length) : ∃ x, l[k]? = some x ∧ l.drop k = x :: l.drop (k + 1) :=
  ⟨l[k], List.getElem?_eq_getElem h, List.drop_eq_getElem_cons h⟩
theorem drop_end {α : Type} {l : List α} {k : Nat} (h : l.length ≤ k) : l.drop k = [] := List.drop_eq_nil_of_le h
section
variable {P : Program} {A : Amb} {ops : Array Oper} {K : St → Prop} {Q : Exit → St → Prop} {rest : List Oper} {σ : St} {fr : List (Nat × SV)} {L L' : List LO} {N i t : Nat} {sv : SV} {o : Oper}
variable {ty T : TypeId} {pos : String} {af : Array Edge} {x y : Operand} {g : Option (Nat × Bool)} {dst : Option Nat} {op : Op}
/-! ### quiet operations that look at their operands alone -/
def QR (P : Program) (σ : St) (o : Oper) (sv : SV) : Prop := ∀ A fr' L', (∀ x ∈ o.op.operands.toList, St.ev ⟨fr', L', σ.N⟩ x = σ.ev x) → Keep σ.L L' → Quiet P A ⟨fr', L', σ.N⟩ o sv
theorem QR.q (h : QR P σ o sv) : Quiet P A σ o sv := h A σ.fr σ.L (fun _ _ => rfl) (Keep.refl _)
theorem VO_r (hq : QR P ⟨fr, L, N⟩ ⟨some t, op, ty, pos, af, none⟩ sv) (h : VO P A ops rest ⟨(t, sv) :: fr, L, N⟩ K) (ht : Nat.blt t N = true := by rfl) : VO P A ops (⟨some t, op, ty, pos, af, none⟩ :: rest) ⟨fr, L, N⟩ K := VO_q hq.q ht h
theorem VY_r {r : List (Nat × Bool)} {pf : PF} (hq : QR P ⟨fr, L, N⟩ ⟨some t, op, ty, pos, af, none⟩ sv) (hv : VY P A ops K r ((i, L) :: pf) ⟨(t, sv) :: fr, L, N⟩) (hi : ops[i]? = some ⟨some t, op, ty, pos, af, none⟩ := by rfl) (ht : Nat.blt t N = true := by rfl) : VY P A ops K ((i, true) :: r) pf ⟨fr, L, N⟩ :=
  VY_qr hi rfl rfl (fun fr' L' he hk => hq A fr' L' he hk) ht hv
theorem VO_k (hq : Quiet P A ⟨fr, L, N⟩ ⟨some t, op, ty, pos, af, none⟩ sv) (h : VO P A ops rest ⟨(t, sv) :: fr, L, N⟩ K) (ht : Nat.blt t N = true := by rfl) : VO P A ops (⟨some t, op, ty, pos, af, none⟩ :: rest) ⟨fr, L, N⟩ K := VO_q hq ht h
section
variable {e z bs k : Nat} {gg : Bool} {kd : IntKind} {us : List U} {u : U}
theorem QR_ixn [TE P T e] [TI P e gg z bs] (k : Nat) (hu : us[k]? = some u) (hx : σ.ev x = .d (.sl z us) := by rfl) (hy : σ.ev y = .d (.i kd (k : Int)) := by rfl) : QR P σ ⟨dst, .indexAddr T x y, ty, pos, af, g⟩ (.dp u) :=
  fun A fr' L' he _ => Q_index (by rw [he x (by simp [Op.operands])]; exact hx) (by rw [he y (by simp [Op.operands])]; exact hy) TE.h TI.h (Int.natCast_nonneg k) hu
end
/-- Counting on by one. -/
theorem QR_inc {T' : TypeId} (k : Nat) (hk : k < 9223372036854775807) (hx : σ.ev x = .d (.i .i64 (k : Int)) := by rfl) (hy : σ.ev y = .d (.i .i64 1) := by rfl) : QR P σ ⟨dst, .binOp .add T x y T', ty, pos, af, g⟩ (.d (.i .i64 ((k + 1 : Nat) : Int))) :=
  fun A fr' L' he _ => by
    have := Q_add (P := P) (A := A) (dst := dst) (ty := ty) (pos := pos) (af := af) (g := g) (T := T) (T' := T') (σ := ⟨fr', L', σ.N⟩) (m := (k : Int)) (n := 1) (by rw [he x (by simp [Op.operands])]; exact hx) (by rw [he y (by simp [Op.operands])]; exact hy) (by omega) (by omega)
    simpa using this
/-- A call of a pure function, its arguments plain data. -/
theorem QR_call {f : Operand} {fi : Nat} {caps : List SV} {args : Array Operand} {at_ : Array TypeId} {dargs : List SV} {us : List U}
    (hspec : SpecP P fi dargs us) (hf : σ.ev f = .fn fi caps := by rfl) (hargs : ∀ L', VAs L' (args.toList.map σ.ev ++ caps) dargs := by (intro L'; (repeat (first | exact trivial | exact rfl | exact ⟨_, rfl⟩ | exact (‹∀ n, SV.lts n _ = true› _) | refine And.intro ?_ ?_)); first | done | fail)) :
    QR P σ ⟨dst, .call { callee := .value f, args := args, argTypes := at_ }, ty, pos, af, g⟩ (mkR us) :=
  fun A fr' L' he _ => Q_call (by rw [he f (by simp [Op.operands, Call.operands])]; exact hf) hspec (by
    have : args.toList.map (St.ev ⟨fr', L', σ.N⟩) = args.toList.map σ.ev := List.map_congr_left fun x hx => he x (by simp only [Op.operands, Call.operands]; simp; exact .inr (by simpa using hx))
    rw [this]
    exact hargs L')
theorem V_cb {c : Operand} {x y : Code} {t : Bool} (ht : t = true → V P A x σ Q) (hf : t = false → V P A y σ Q) (hc : σ.ev c = .d (.b t) := by rfl) : V P A (.cond c x y) σ Q := V_cond hc ht hf
end
end Go.Eng
set_option linter.unusedVariables false
namespace Go.Eng
open Go Go.RowKit
def eStr (s : List UInt8) : U := .s s
def eStrs : List (List UInt8) → List U
  | [] => []
  | a :: l => .s a :: eStrs l
class Enc (α : Type) (e : outParam (α → U)) (es : outParam (List α → List U)) (z : outParam Nat) : Prop where
  h : ∀ l, es l = l.map e
  hz : ∀ x, (e x).sz = z
theorem Enc.get {α : Type} {e : α → U} {es : List α → List U} {z : Nat} [E : Enc α e es z] {l : List α} {k : Nat} {x : α} (h : l[k]? = some x) : (es l)[k]? = some (e x) := by rw [E.h, List.getElem?_map, h]; rfl
theorem Enc.len {α : Type} {e : α → U} {es : List α → List U} {z : Nat} [E : Enc α e es z] (l : List α) : (es l).length = l.length := by rw [E.h, List.length_map]
theorem Enc.app {α : Type} {e : α → U} {es : List α → List U} {z : Nat} [E : Enc α e es z] (l r : List α) : es (l ++ r) = es l ++ es r := by simp only [E.h, List.map_append]
theorem Enc.set {α : Type} {e : α → U} {es : List α → List U} {z : Nat} [E : Enc α e es z] (l : List α) (k : Nat) (x : α) : es (l.set k x) = (es l).set k (e x) := by simp only [E.h, List.map_set]
theorem Enc.rep {α : Type} {e : α → U} {es : List α → List U} {z : Nat} [E : Enc α e es z] (n : Nat) (x : α) : es (List.replicate n x) = List.replicate n (e x) := by simp only [E.h, List.map_replicate]
theorem Enc.all {α : Type} {e : α → U} {es : List α → List U} {z : Nat} [E : Enc α e es z] (l : List α) : ∀ u ∈ es l, u.sz = z := by
  rw [E.h]
  intro u hu
  obtain ⟨x, _, rfl⟩ := List.mem_map.1 hu
  exact E.hz x
instance : Enc (List UInt8) eStr eStrs 1 := ⟨fun l => by induction l with | nil => rfl | cons a l ih => simp [eStrs, ih, eStr], fun _ => rfl⟩
theorem eStrs_noSl (l : List (List UInt8)) : U.noSls (eStrs l) = true := by induction l with | nil => rfl | cons a l ih => simp [eStrs, U.noSls, U.noSl, ih]
structure TType where
  kind : Int
  name : List UInt8
  args : List TType
mutual
def eType : TType → U
  | ⟨f0, f1, f2⟩ => .st [.i .i64 f0, .s f1, .sl 3 (eTypes f2)]
def eTypes : List TType → List U
  | [] => []
  | a :: l => eType a :: eTypes l
end
theorem eType_sz (x : TType) : (eType x).sz = 3 := by cases x; simp [eType, U.sz, U.szs]
instance : Enc TType eType eTypes 3 := ⟨fun l => by induction l with | nil => rfl | cons a l ih => simp [eTypes, ih], eType_sz⟩
theorem gType {l : List TType} {k : Nat} {x : TType} (h : l[k]? = some x) : (eTypes l)[k]? = some (eType x) := Enc.get h
mutual
structure TArm where
  constructor : List UInt8
  vars : List (List UInt8)
  body : TExpr
structure TExpr where
  kind : Int
  trait : List UInt8
  name : List UInt8
  n : Int
  type_ : TType
  args : List TExpr
  arms : List TArm
end
mutual
def eArm : TArm → U
  | ⟨f0, f1, f2⟩ => .st [.s f0, .sl 1 (eStrs f1), eExpr f2]
def eArms : List TArm → List U
  | [] => []
  | a :: l => eArm a :: eArms l
def eExpr : TExpr → U
  | ⟨f0, f1, f2, f3, f4, f5, f6⟩ => .st [.i .i64 f0, .s f1, .s f2, .i .i64 f3, eType f4, .sl 9 (eExprs f5), .sl 11 (eArms f6)]
def eExprs : List TExpr → List U
  | [] => []
  | a :: l => eExpr a :: eExprs l
end
theorem eExpr_sz (x : TExpr) : (eExpr x).sz = 9 := by cases x; simp [eExpr, U.sz, U.szs, eType_sz]
instance : Enc TExpr eExpr eExprs 9 := ⟨fun l => by induction l with | nil => rfl | cons a l ih => simp [eExprs, ih], eExpr_sz⟩
theorem gExpr {l : List TExpr} {k : Nat} {x : TExpr} (h : l[k]? = some x) : (eExprs l)[k]? = some (eExpr x) := Enc.get h
theorem eArm_sz (x : TArm) : (eArm x).sz = 11 := by cases x; simp [eArm, U.sz, U.szs, eExpr_sz]
instance : Enc TArm eArm eArms 11 := ⟨fun l => by induction l with | nil => rfl | cons a l ih => simp [eArms, ih], eArm_sz⟩
theorem gArm {l : List TArm} {k : Nat} {x : TArm} (h : l[k]? = some x) : (eArms l)[k]? = some (eArm x) := Enc.get h
structure TSignature where
  name : List UInt8
  params : List TType
  result : TType
  hasDefault : Bool
  vars : List (List UInt8)
  body : TExpr
mutual
def eSignature : TSignature → U
  | ⟨f0, f1, f2, f3, f4, f5⟩ => .st [.s f0, .sl 3 (eTypes f1), eType f2, .b f3, .sl 1 (eStrs f4), eExpr f5]
def eSignatures : List TSignature → List U
  | [] => []
  | a :: l => eSignature a :: eSignatures l
end
theorem eSignature_sz (x : TSignature) : (eSignature x).sz = 16 := by cases x; simp [eSignature, U.sz, U.szs, eExpr_sz, eType_sz]
instance : Enc TSignature eSignature eSignatures 16 := ⟨fun l => by induction l with | nil => rfl | cons a l ih => simp [eSignatures, ih], eSignature_sz⟩
theorem gSignature {l : List TSignature} {k : Nat} {x : TSignature} (h : l[k]? = some x) : (eSignatures l)[k]? = some (eSignature x) := Enc.get h
structure TTrait where
  name : List UInt8
  supertraits : List (List UInt8)
  auto : Bool
  assoc : Bool
  signatures : List TSignature
mutual
def eTrait : TTrait → U
  | ⟨f0, f1, f2, f3, f4⟩ => .st [.s f0, .sl 1 (eStrs f1), .b f2, .b f3, .sl 16 (eSignatures f4)]
def eTraits : List TTrait → List U
  | [] => []
  | a :: l => eTrait a :: eTraits l
end
theorem eTrait_sz (x : TTrait) : (eTrait x).sz = 5 := by cases x; simp [eTrait, U.sz, U.szs]
instance : Enc TTrait eTrait eTraits 5 := ⟨fun l => by induction l with | nil => rfl | cons a l ih => simp [eTraits, ih], eTrait_sz⟩
theorem gTrait {l : List TTrait} {k : Nat} {x : TTrait} (h : l[k]? = some x) : (eTraits l)[k]? = some (eTrait x) := Enc.get h
structure TConstructor where
  name : List UInt8
  fields : List TType
mutual
def eConstructor : TConstructor → U
  | ⟨f0, f1⟩ => .st [.s f0, .sl 3 (eTypes f1)]
def eConstructors : List TConstructor → List U
  | [] => []
  | a :: l => eConstructor a :: eConstructors l
end
theorem eConstructor_sz (x : TConstructor) : (eConstructor x).sz = 2 := by cases x; simp [eConstructor, U.sz, U.szs]
instance : Enc TConstructor eConstructor eConstructors 2 := ⟨fun l => by induction l with | nil => rfl | cons a l ih => simp [eConstructors, ih], eConstructor_sz⟩
theorem gConstructor {l : List TConstructor} {k : Nat} {x : TConstructor} (h : l[k]? = some x) : (eConstructors l)[k]? = some (eConstructor x) := Enc.get h
structure TDataType where
  name : List UInt8
  vars : List (List UInt8)
  constructors : List TConstructor
mutual
def eDataType : TDataType → U
  | ⟨f0, f1, f2⟩ => .st [.s f0, .sl 1 (eStrs f1), .sl 2 (eConstructors f2)]
def eDataTypes : List TDataType → List U
  | [] => []
  | a :: l => eDataType a :: eDataTypes l
end
theorem eDataType_sz (x : TDataType) : (eDataType x).sz = 3 := by cases x; simp [eDataType, U.sz, U.szs]
instance : Enc TDataType eDataType eDataTypes 3 := ⟨fun l => by induction l with | nil => rfl | cons a l ih => simp [eDataTypes, ih], eDataType_sz⟩
theorem gDataType {l : List TDataType} {k : Nat} {x : TDataType} (h : l[k]? = some x) : (eDataTypes l)[k]? = some (eDataType x) := Enc.get h
structure TBound where
  trait : List UInt8
  type_ : TType
mutual
def eBound : TBound → U
  | ⟨f0, f1⟩ => .st [.s f0, eType f1]
def eBounds : List TBound → List U
  | [] => []
  | a :: l => eBound a :: eBounds l
end
theorem eBound_sz (x : TBound) : (eBound x).sz = 4 := by cases x; simp [eBound, U.sz, U.szs, eType_sz]
instance : Enc TBound eBound eBounds 4 := ⟨fun l => by induction l with | nil => rfl | cons a l ih => simp [eBounds, ih], eBound_sz⟩
theorem gBound {l : List TBound} {k : Nat} {x : TBound} (h : l[k]? = some x) : (eBounds l)[k]? = some (eBound x) := Enc.get h
structure TMethod where
  name : List UInt8
  vars : List (List UInt8)
  body : TExpr
mutual
def eMethod : TMethod → U
  | ⟨f0, f1, f2⟩ => .st [.s f0, .sl 1 (eStrs f1), eExpr f2]
def eMethods : List TMethod → List U
  | [] => []
  | a :: l => eMethod a :: eMethods l
end
theorem eMethod_sz (x : TMethod) : (eMethod x).sz = 11 := by cases x; simp [eMethod, U.sz, U.szs, eExpr_sz]
instance : Enc TMethod eMethod eMethods 11 := ⟨fun l => by induction l with | nil => rfl | cons a l ih => simp [eMethods, ih], eMethod_sz⟩
theorem gMethod {l : List TMethod} {k : Nat} {x : TMethod} (h : l[k]? = some x) : (eMethods l)[k]? = some (eMethod x) := Enc.get h
structure TInstance where
  trait : List UInt8
  vars : List (List UInt8)
  head : TType
  where_ : List TBound
  default_ : Bool
  hasAssoc : Bool
  assoc : TType
  methods : List TMethod
mutual
def eInstance : TInstance → U
  | ⟨f0, f1, f2, f3, f4, f5, f6, f7⟩ => .st [.s f0, .sl 1 (eStrs f1), eType f2, .sl 4 (eBounds f3), .b f4, .b f5, eType f6, .sl 11 (eMethods f7)]
def eInstances : List TInstance → List U
  | [] => []
  | a :: l => eInstance a :: eInstances l
end
theorem eInstance_sz (x : TInstance) : (eInstance x).sz = 12 := by cases x; simp [eInstance, U.sz, U.szs, eType_sz]
instance : Enc TInstance eInstance eInstances 12 := ⟨fun l => by induction l with | nil => rfl | cons a l ih => simp [eInstances, ih], eInstance_sz⟩
theorem gInstance {l : List TInstance} {k : Nat} {x : TInstance} (h : l[k]? = some x) : (eInstances l)[k]? = some (eInstance x) := Enc.get h
structure TParam where
  name : List UInt8
  type_ : TType
mutual
def eParam : TParam → U
  | ⟨f0, f1⟩ => .st [.s f0, eType f1]
def eParams : List TParam → List U
  | [] => []
  | a :: l => eParam a :: eParams l
end
theorem eParam_sz (x : TParam) : (eParam x).sz = 4 := by cases x; simp [eParam, U.sz, U.szs, eType_sz]
instance : Enc TParam eParam eParams 4 := ⟨fun l => by induction l with | nil => rfl | cons a l ih => simp [eParams, ih], eParam_sz⟩
theorem gParam {l : List TParam} {k : Nat} {x : TParam} (h : l[k]? = some x) : (eParams l)[k]? = some (eParam x) := Enc.get h
structure TFunction where
  name : List UInt8
  vars : List (List UInt8)
  where_ : List TBound
  params : List TParam
  result : TType
  body : TExpr
mutual
def eFunction : TFunction → U
  | ⟨f0, f1, f2, f3, f4, f5⟩ => .st [.s f0, .sl 1 (eStrs f1), .sl 4 (eBounds f2), .sl 4 (eParams f3), eType f4, eExpr f5]
def eFunctions : List TFunction → List U
  | [] => []
  | a :: l => eFunction a :: eFunctions l
end
theorem eFunction_sz (x : TFunction) : (eFunction x).sz = 16 := by cases x; simp [eFunction, U.sz, U.szs, eExpr_sz, eType_sz]
instance : Enc TFunction eFunction eFunctions 16 := ⟨fun l => by induction l with | nil => rfl | cons a l ih => simp [eFunctions, ih], eFunction_sz⟩
theorem gFunction {l : List TFunction} {k : Nat} {x : TFunction} (h : l[k]? = some x) : (eFunctions l)[k]? = some (eFunction x) := Enc.get h
structure TPackage where
  name : List UInt8
  deps : List (List UInt8)
  traits : List TTrait
  dataTypes : List TDataType
  instances : List TInstance
  functions : List TFunction
mutual
def ePackage : TPackage → U
  | ⟨f0, f1, f2, f3, f4, f5⟩ => .st [.s f0, .sl 1 (eStrs f1), .sl 5 (eTraits f2), .sl 3 (eDataTypes f3), .sl 12 (eInstances f4), .sl 16 (eFunctions f5)]
def ePackages : List TPackage → List U
  | [] => []
  | a :: l => ePackage a :: ePackages l
end
theorem ePackage_sz (x : TPackage) : (ePackage x).sz = 6 := by cases x; simp [ePackage, U.sz, U.szs]
instance : Enc TPackage ePackage ePackages 6 := ⟨fun l => by induction l with | nil => rfl | cons a l ih => simp [ePackages, ih], ePackage_sz⟩
theorem gPackage {l : List TPackage} {k : Nat} {x : TPackage} (h : l[k]? = some x) : (ePackages l)[k]? = some (ePackage x) := Enc.get h
structure TProgram where
  packages : List TPackage
mutual
def eProgram : TProgram → U
  | ⟨f0⟩ => .st [.sl 6 (ePackages f0)]
def ePrograms : List TProgram → List U
  | [] => []
  | a :: l => eProgram a :: ePrograms l
end
end Go.Eng
set_option linter.unusedVariables false
set_option linter.unusedSimpArgs false
namespace Go.Eng
open Go Go.RowKit
theorem lt_x {α β : Type} {v : α} {k : α → β} {r : β} (h : lt_ v k = r) : ∃ x, v = x ∧ k x = r := ⟨v, rfl, h⟩
section
variable {l : List UInt8} {k n : Nat}
theorem kltN (h : decide ((k : Int) < (n : Int)) = true) : k < n := by have h := of_decide_eq_true h; omega
theorem kgeN (h : decide ((k : Int) < (n : Int)) = false) : n ≤ k := by have h := of_decide_eq_false h; omega
end
section
variable {P : Program} {A : Amb} {ops : Array Oper} {K : St → Prop} {Q : Exit → St → Prop} {rest : List Oper} {σ : St} {c : Code}
theorem V_loop3 {α0 α1 α2 : Type} (I : α0 → α1 → α2 → St) (J : α0 → α1 → α2 → Prop) (μ : α0 → α1 → α2 → Nat) (x0 : α0) (x1 : α1) (x2 : α2) (h0 : Le σ (I x0 x1 x2)) (hJ : J x0 x1 x2)
    (round : ∀ a0 a1 a2, J a0 a1 a2 → V P A c (I a0 a1 a2) (thenS (fun s => ∃ b0 b1 b2, J b0 b1 b2 ∧ μ b0 b1 b2 < μ a0 a1 a2 ∧ Le s (I b0 b1 b2)) Q)) (hA : ∀ a0 a1 a2, A.L0.length ≤ (I a0 a1 a2).L.length := by intros; rw [BaseN.h (A := A)]; exact Nat.le_of_ble_eq_true rfl) : V P A (.loop c) σ Q :=
  V_loop (α := α0 × α1 × α2) (fun x => I (x.1) (x.2.1) (x.2.2)) (fun x => J (x.1) (x.2.1) (x.2.2)) (fun x => μ (x.1) (x.2.1) (x.2.2)) (x0, x1, x2) h0 hJ (fun x hx => V.mono (round (x.1) (x.2.1) (x.2.2) hx) (fun e s hq => by
    cases e with
    | normal =>
      obtain ⟨b0, b1, b2, h1, h2, h3⟩ := hq
      exact ⟨(b0, b1, b2), h1, h2, h3⟩
    | _ => exact hq)) (fun x => hA (x.1) (x.2.1) (x.2.2))
end
end Go.Eng
set_option linter.unusedVariables false
set_option linter.unusedSimpArgs false
namespace Go.Eng
open Go Go.RowKit
section
variable {P : Program} {A : Amb} {ops : Array Oper} {K : St → Prop} {Q : Exit → St → Prop} {rest : List Oper} {σ : St} {fr : List (Nat × SV)} {L L1 L' : List LO} {N i t : Nat} {sv : SV} {o : Oper} {c : Code}
variable {ty T : TypeId} {pos : String} {af : Array Edge} {x y : Operand} {g : Option (Nat × Bool)} {dst : Option Nat} {op : Op}
/-! ### lengths -/
theorem QR_len {α : Type} {e : α → U} {es : List α → List U} {z z' : Nat} [E : Enc α e es z] {el : TypeId} [TE P T el] {T' : TypeId} {l : List α} (hx : σ.ev x = .d (.sl z' (es l)) := by rfl) : QR P σ ⟨dst, .call { callee := .builtin .len, args := #[x], argTypes := #[T] }, T', pos, af, g⟩ (.d (.i .i64 (l.length : Int))) :=
  fun A fr' L' he _ => by
    rw [← Enc.len (es := es) l]
    exact Q_len (by rw [he x (by simp [Op.operands, Call.operands])]; exact hx) TE.h
/-! ### guarded operations that are passed over -/
/-! ### the call that hands over -/
def pickB (L : List LO) (ρ : Nat → Nat) : Nat → List LO → Prop
  | _, [] => True
  | m, o :: os => L[ρ m]? = some (o.ren ρ) ∧ pickB L ρ (m + 1) os
theorem pickB_get {L : List LO} {ρ : Nat → Nat} : ∀ {Lc : List LO} {n : Nat}, pickB L ρ n Lc → ∀ (m : Nat) (o : LO), Lc[m]? = some o → L[ρ (n + m)]? = some (o.ren ρ)
  | [], _, _, m, o, h => by simp at h
  | o0 :: os, n, hp, 0, o, h => by simp at h; subst h; exact hp.1
  | o0 :: os, n, hp, m + 1, o, h => by
    have := pickB_get hp.2 m o (by simpa using h)
    rwa [show n + 1 + m = n + (m + 1) by omega] at this
theorem R_rP {fn : Func} {us : List U} (h : ResPs P σ fn.results.toList us := by ((repeat (first | exact trivial | exact ⟨_, rfl, rfl⟩ | exact ⟨_, rfl, ⟨_, rfl⟩⟩ | exact ⟨_, ResV_ag rfl rfl TI.h rfl rfl, (by (repeat (first | exact trivial | exact rfl | exact ⟨_, rfl⟩ | refine And.intro ?_ ?_)); first | done | fail)⟩ | exact ⟨_, ResV_one rfl rfl TI.h rfl, rfl⟩ | refine And.intro ?_ ?_)); first | done | fail)) : PostP P fn us .ret σ := ⟨trivial, h⟩
theorem R_rO {fn : Func} {es : List TypeId} {us : List U} {ps : List (Option Nat)} (h : ROs P σ fn.results.toList us es ps := by ((repeat (first | exact rfl | exact ResV_ag rfl rfl TI.h rfl rfl | exact ResV_one rfl rfl TI.h rfl | constructor)); first | done | fail)) (hn : decide ((ps.filterMap id).Nodup) = true := by rfl) : PostO P fn es us .ret σ := ⟨trivial, ps, h, hn⟩
/-! ### a call of a function that was handed in -/
/-! ### arrays -/
theorem VO_l0 {e z bs : Nat} {gg : Bool} [TE P T e] [TI P e gg z bs] (h : VO P A ops rest ⟨(t, .sl i 0) :: fr, L', N⟩ K) (ht : Nat.blt t N = true := by rfl) (hL' : Sn (.own e z 0 []) L i L' := by repeat constructor) :
    VO P A ops (⟨some t, .buildSlice T 0 #[], ty, pos, af, none⟩ :: rest) ⟨fr, L, N⟩ K := VO_slit0 TE.h TI.h ht hL' h
/-- Append to an owned array. -/
theorem VO_ap {α : Type} {en : α → U} {es : List α → List U} {z : Nat} [E : Enc α en es z] {l r : List α} (hg : l.length + r.length ≤ 4294967296) {e bs ver : Nat} {gg : Bool} [TE P T e] [TI P e gg z bs] {zs : List Value} [TZ P e zs] {js : List Nat} {T' : TypeId}
    (h : VO P A ops rest ⟨(t, .sl i (ver + 1)) :: fr, L', N⟩ K) (hx : (St.mk fr L N).ev x = .sl i ver := by rfl) (hL : L[i]? = some (.own e z ver (es l)) := by rfl) (hs : SrcO L z ((St.mk fr L N).ev y) (es r) js := by first | exact .own rfl | exact .nil | exact .data (Enc.all _) (eStrs_noSl _) | exact .data (Enc.all _) (eInts_noSl _))
    (hjs : (decide js.Nodup && !js.contains i) = true := by decide) (hz : (Nat.blt 0 z && zs.length == z) = true := by rfl) (hb : Nat.ble bs 32768 = true := by rfl)
    (ht : Nat.blt t N = true := by rfl) (hk1 : KR js L L1 := by repeat constructor) (hL' : St1 (.own e z (ver + 1) (es (l ++ r))) i L1 L' := by repeat constructor) :
    VO P A ops (⟨some t, .call { callee := .builtin .append, args := #[x, y], argTypes := #[T, T] }, T', pos, af, none⟩ :: rest) ⟨fr, L, N⟩ K := by
  have h1 : (es l).length = l.length := Enc.len l
  have h2 : (es r).length = r.length := Enc.len r
  have hb := Nat.le_of_ble_eq_true hb
  rw [Enc.app (es := es)] at hL'
  refine VR_append hx hL hs hjs TE.h TI.h TZ.h hz (by rw [big_eq]; omega) ?_ ht hk1 hL' h
  rw [h1, h2]
  exact Nat.le_trans (Nat.mul_le_mul hg hb) (by decide)
/-! ### an owned array is let go: from here on it is data -/
/-! ### how long a list that is held can be -/
theorem V_bd {α : Type} {e : α → U} {es : List α → List U} {z : Nat} [E : Enc α e es z] {l : List α} {z' : Nat} (j : Nat) (h : l.length ≤ 140737488355328 → V P A c ⟨fr, L, N⟩ Q) (hb : look fr j = .d (.sl z' (es l)) := by rfl) : V P A c ⟨fr, L, N⟩ Q := by
  intro a w hr
  refine h ?_ a w hr
  obtain ⟨S, env, hH, hf, hN, hd⟩ := hr
  have := hf j
  simp only at this
  rw [hb] at this
  have := (SVr.slice.1 this).1
  rwa [Enc.len, big_eq] at this
theorem V_bdc {α : Type} {e : α → U} {es : List α → List U} {z : Nat} [E : Enc α e es z] {l : List α} {z' : Nat} {cs : List SV} (i j : Nat) (h : l.length ≤ 140737488355328 → V P A c ⟨fr, L, N⟩ Q) (hL : L[i]? = some (.box cs) := by rfl) (hb : cs[j]? = some (.d (.sl z' (es l))) := by rfl) : V P A c ⟨fr, L, N⟩ Q := by
  intro a w hr
  refine h ?_ a w hr
  obtain ⟨S, env, hH, hf, hN, hd⟩ := hr
  obtain ⟨hv, he⟩ : ∃ hv, env[i]? = some hv := ⟨_, List.getElem?_eq_getElem (by rw [hH.len]; exact (List.getElem?_eq_some_iff.1 hL).1)⟩
  obtain ⟨b, vals, e', r1, r2, r3, r4⟩ := hH.objs i _ hv hL he
  obtain ⟨v, v1, v2⟩ := SVrs.get r3 j _ hb
  have := (SVr.slice.1 v2).1
  rwa [Enc.len, big_eq] at this
end
/-- The like in a region that draws its order and holds more than quiet operations. -/
theorem goY {X Y : Prop} (hy : Y) (h : Y → X := by
    intro hy
    repeat (first | refine VY_r QR_len ?_ | refine VY_d rfl ?_ (by (repeat constructor); first | done | fail) | refine VY_h rfl (by repeat constructor) (by repeat (first | exact PfOk.nil | (apply PfOk.keep; focus ((repeat constructor); done)) | (apply PfOk.dep; focus kernel_rfl))) ?_)
    exact hy) : X := h hy
end Go.Eng
set_option linter.unusedVariables false
set_option linter.unusedSimpArgs false
namespace Go.Eng
open Go Go.RowKit
theorem ofs {α : Type} {e : α → U} {es : List α → List U} {z : Nat} [E : Enc α e es z] : ∀ {us : List U}, (∀ u ∈ us, ∃ x, u = e x) → ∃ l, us = es l
  | [], _ => ⟨[], by rw [E.h]; rfl⟩
  | u :: us, h => by
    obtain ⟨x, rfl⟩ := h u (by simp)
    obtain ⟨l, rfl⟩ := ofs (us := us) (fun v hv => h v (by simp [hv]))
    exact ⟨x :: l, by rw [E.h, E.h]; rfl⟩
theorem ofStr {u : U} (h : wt .str u) : ∃ x, u = eStr x := by obtain ⟨n, rfl, _⟩ := inv_str h; exact ⟨n, rfl⟩
theorem ofType (u : U) : wt (.st 1) u → ∃ x, u = eType x := by
  refine U.ind (M := fun u => wt (.st 1) u → ∃ x, u = eType x) (fun u ih h => ?_) u
  obtain ⟨q0_f0, q0_f1, q0_f2, rfl, q0_h0, q0_h1, q0_h2⟩ := inv_Type h
  obtain ⟨q0_l2, rfl⟩ := ofs (e := eType) (fun a ha => ih a (by have := nn_of_mem ha; simp only [U.nn, U.nns] at *; omega) (q0_h2.2 a ha))
  exact ⟨⟨q0_f0, q0_f1, q0_l2⟩, rfl⟩
theorem ofExpr (u : U) : wt (.st 4) u → ∃ x, u = eExpr x := by
  refine U.ind (M := fun u => wt (.st 4) u → ∃ x, u = eExpr x) (fun u ih h => ?_) u
  obtain ⟨q0_f0, q0_f1, q0_f2, q0_f3, q0_f4, q0_f5, q0_f6, rfl, q0_h0, q0_h1, q0_h2, q0_h3, q0_h4, q0_h5, q0_h6⟩ := inv_Expr h
  obtain ⟨q0_x4, rfl⟩ := ofType q0_f4 q0_h4
  obtain ⟨q0_l5, rfl⟩ := ofs (e := eExpr) (fun a ha => ih a (by have := nn_of_mem ha; simp only [U.nn, U.nns] at *; omega) (q0_h5.2 a ha))
  obtain ⟨q0_l6, rfl⟩ : ∃ l, q0_f6 = eArms l := ofs (e := eArm) (fun a ha => by
    have hq := q0_h6.2 a ha
    have hnn := nn_of_mem ha
    obtain ⟨q1_f0, q1_f1, q1_f2, rfl, q1_h0, q1_h1, q1_h2⟩ := inv_Arm hq
    obtain ⟨q1_l1, rfl⟩ := ofs (e := eStr) (fun a ha => ofStr (q1_h1.2 a ha))
    obtain ⟨q1_x2, rfl⟩ := ih q1_f2 (by simp only [U.nn, U.nns] at *; omega) q1_h2
    exact ⟨⟨q1_f0, q1_l1, q1_x2⟩, rfl⟩)
  exact ⟨⟨q0_f0, q0_f1, q0_f2, q0_f3, q0_x4, q0_l5, q0_l6⟩, rfl⟩
theorem ofSignature (u : U) (h : wt (.st 5) u) : ∃ x, u = eSignature x := by
  obtain ⟨q0_f0, q0_f1, q0_f2, q0_f3, q0_f4, q0_f5, rfl, q0_h0, q0_h1, q0_h2, q0_h4, q0_h5⟩ := inv_Signature h
  obtain ⟨q0_l1, rfl⟩ := ofs (e := eType) (fun a ha => ofType a (q0_h1.2 a ha))
  obtain ⟨q0_x2, rfl⟩ := ofType q0_f2 q0_h2
  obtain ⟨q0_l4, rfl⟩ := ofs (e := eStr) (fun a ha => ofStr (q0_h4.2 a ha))
  obtain ⟨q0_x5, rfl⟩ := ofExpr q0_f5 q0_h5
  exact ⟨⟨q0_f0, q0_l1, q0_x2, q0_f3, q0_l4, q0_x5⟩, rfl⟩
theorem ofTrait (u : U) (h : wt (.st 6) u) : ∃ x, u = eTrait x := by
  obtain ⟨q0_f0, q0_f1, q0_f2, q0_f3, q0_f4, rfl, q0_h0, q0_h1, q0_h4⟩ := inv_Trait h
  obtain ⟨q0_l1, rfl⟩ := ofs (e := eStr) (fun a ha => ofStr (q0_h1.2 a ha))
  obtain ⟨q0_l4, rfl⟩ := ofs (e := eSignature) (fun a ha => ofSignature a (q0_h4.2 a ha))
  exact ⟨⟨q0_f0, q0_l1, q0_f2, q0_f3, q0_l4⟩, rfl⟩
theorem ofConstructor (u : U) (h : wt (.st 7) u) : ∃ x, u = eConstructor x := by
  obtain ⟨q0_f0, q0_f1, rfl, q0_h0, q0_h1⟩ := inv_Constructor h
  obtain ⟨q0_l1, rfl⟩ := ofs (e := eType) (fun a ha => ofType a (q0_h1.2 a ha))
  exact ⟨⟨q0_f0, q0_l1⟩, rfl⟩
theorem ofDataType (u : U) (h : wt (.st 8) u) : ∃ x, u = eDataType x := by
  obtain ⟨q0_f0, q0_f1, q0_f2, rfl, q0_h0, q0_h1, q0_h2⟩ := inv_DataType h
  obtain ⟨q0_l1, rfl⟩ := ofs (e := eStr) (fun a ha => ofStr (q0_h1.2 a ha))
  obtain ⟨q0_l2, rfl⟩ := ofs (e := eConstructor) (fun a ha => ofConstructor a (q0_h2.2 a ha))
  exact ⟨⟨q0_f0, q0_l1, q0_l2⟩, rfl⟩
theorem ofBound (u : U) (h : wt (.st 9) u) : ∃ x, u = eBound x := by
  obtain ⟨q0_f0, q0_f1, rfl, q0_h0, q0_h1⟩ := inv_Bound h
  obtain ⟨q0_x1, rfl⟩ := ofType q0_f1 q0_h1
  exact ⟨⟨q0_f0, q0_x1⟩, rfl⟩
theorem ofMethod (u : U) (h : wt (.st 10) u) : ∃ x, u = eMethod x := by
  obtain ⟨q0_f0, q0_f1, q0_f2, rfl, q0_h0, q0_h1, q0_h2⟩ := inv_Method h
  obtain ⟨q0_l1, rfl⟩ := ofs (e := eStr) (fun a ha => ofStr (q0_h1.2 a ha))
  obtain ⟨q0_x2, rfl⟩ := ofExpr q0_f2 q0_h2
  exact ⟨⟨q0_f0, q0_l1, q0_x2⟩, rfl⟩
theorem ofInstance (u : U) (h : wt (.st 11) u) : ∃ x, u = eInstance x := by
  obtain ⟨q0_f0, q0_f1, q0_f2, q0_f3, q0_f4, q0_f5, q0_f6, q0_f7, rfl, q0_h0, q0_h1, q0_h2, q0_h3, q0_h6, q0_h7⟩ := inv_Instance h
  obtain ⟨q0_l1, rfl⟩ := ofs (e := eStr) (fun a ha => ofStr (q0_h1.2 a ha))
  obtain ⟨q0_x2, rfl⟩ := ofType q0_f2 q0_h2
  obtain ⟨q0_l3, rfl⟩ := ofs (e := eBound) (fun a ha => ofBound a (q0_h3.2 a ha))
  obtain ⟨q0_x6, rfl⟩ := ofType q0_f6 q0_h6
  obtain ⟨q0_l7, rfl⟩ := ofs (e := eMethod) (fun a ha => ofMethod a (q0_h7.2 a ha))
  exact ⟨⟨q0_f0, q0_l1, q0_x2, q0_l3, q0_f4, q0_f5, q0_x6, q0_l7⟩, rfl⟩
theorem ofParam (u : U) (h : wt (.st 12) u) : ∃ x, u = eParam x := by
  obtain ⟨q0_f0, q0_f1, rfl, q0_h0, q0_h1⟩ := inv_Param h
  obtain ⟨q0_x1, rfl⟩ := ofType q0_f1 q0_h1
  exact ⟨⟨q0_f0, q0_x1⟩, rfl⟩
theorem ofFunction (u : U) (h : wt (.st 13) u) : ∃ x, u = eFunction x := by
  obtain ⟨q0_f0, q0_f1, q0_f2, q0_f3, q0_f4, q0_f5, rfl, q0_h0, q0_h1, q0_h2, q0_h3, q0_h4, q0_h5⟩ := inv_Function h
  obtain ⟨q0_l1, rfl⟩ := ofs (e := eStr) (fun a ha => ofStr (q0_h1.2 a ha))
  obtain ⟨q0_l2, rfl⟩ := ofs (e := eBound) (fun a ha => ofBound a (q0_h2.2 a ha))
  obtain ⟨q0_l3, rfl⟩ := ofs (e := eParam) (fun a ha => ofParam a (q0_h3.2 a ha))
  obtain ⟨q0_x4, rfl⟩ := ofType q0_f4 q0_h4
  obtain ⟨q0_x5, rfl⟩ := ofExpr q0_f5 q0_h5
  exact ⟨⟨q0_f0, q0_l1, q0_l2, q0_l3, q0_x4, q0_x5⟩, rfl⟩
theorem ofPackage (u : U) (h : wt (.st 14) u) : ∃ x, u = ePackage x := by
  obtain ⟨q0_f0, q0_f1, q0_f2, q0_f3, q0_f4, q0_f5, rfl, q0_h0, q0_h1, q0_h2, q0_h3, q0_h4, q0_h5⟩ := inv_Package h
  obtain ⟨q0_l1, rfl⟩ := ofs (e := eStr) (fun a ha => ofStr (q0_h1.2 a ha))
  obtain ⟨q0_l2, rfl⟩ := ofs (e := eTrait) (fun a ha => ofTrait a (q0_h2.2 a ha))
  obtain ⟨q0_l3, rfl⟩ := ofs (e := eDataType) (fun a ha => ofDataType a (q0_h3.2 a ha))
  obtain ⟨q0_l4, rfl⟩ := ofs (e := eInstance) (fun a ha => ofInstance a (q0_h4.2 a ha))
  obtain ⟨q0_l5, rfl⟩ := ofs (e := eFunction) (fun a ha => ofFunction a (q0_h5.2 a ha))
  exact ⟨⟨q0_f0, q0_l1, q0_l2, q0_l3, q0_l4, q0_l5⟩, rfl⟩
theorem ofProgram (u : U) (h : wt (.st 15) u) : ∃ x, u = eProgram x := by
  obtain ⟨q0_f0, rfl, q0_h0⟩ := inv_Program h
  obtain ⟨q0_l0, rfl⟩ := ofs (e := ePackage) (fun a ha => ofPackage a (q0_h0.2 a ha))
  exact ⟨⟨q0_l0⟩, rfl⟩
end Go.Eng
set_option linter.unusedVariables false
set_option linter.unusedSimpArgs false
namespace Go.Eng
open Go Go.RowKit
section
variable {P : Program} {A : Amb} {ops : Array Oper} {K : St → Prop} {Q : Exit → St → Prop} {rest : List Oper} {σ : St} {fr : List (Nat × SV)} {L L1 L' : List LO} {N i t : Nat} {sv : SV} {o : Oper} {c : Code}
variable {ty T : TypeId} {pos : String} {af : Array Edge} {x y : Operand} {g : Option (Nat × Bool)} {dst : Option Nat} {op : Op}
/-- The greater of two integers. -/
theorem QR_max {T' ty' : TypeId} {k : IntKind} {m n : Int} (hx : σ.ev x = .d (.i k m) := by rfl) (hy : σ.ev y = .d (.i k n) := by rfl) : QR P σ ⟨dst, .call { callee := .builtin .max, args := #[x, y], argTypes := #[T, T'] }, ty', pos, af, g⟩ (.d (.i k (if m < n then n else m))) :=
  fun A fr' L' he _ => Quiet.pure fun S env a w hH ho => by
    have h1 := ho x (by simp [Op.operands, Call.operands])
    have h2 := ho y (by simp [Op.operands, Call.operands])
    rw [he x (by simp [Op.operands, Call.operands]), hx] at h1
    rw [he y (by simp [Op.operands, Call.operands]), hy] at h2
    have h1 := SVr.int.1 h1
    have h2 := SVr.int.1 h2
    refine ⟨.int k (if m < n then n else m), ?_, SVr.int.2 rfl⟩
    by_cases hmn : m < n <;> simp [execOp, resolve, invoke, builtin, h1, h2, Builtin.max_, Builtin.max2, hmn]
end
end Go.Eng
set_option linter.unusedVariables false
set_option linter.unusedSimpArgs false
namespace Go.Eng
open Go Go.RowKit
section
variable {P : Program} {A : Amb} {ops : Array Oper} {K : St → Prop} {Q : Exit → St → Prop} {rest : List Oper} {σ : St} {fr : List (Nat × SV)} {L L1 L' news : List LO} {N i t n : Nat} {sv : SV} {o : Oper} {c : Code}
variable {ty T : TypeId} {pos : String} {af : Array Edge} {x y : Operand} {g : Option (Nat × Bool)} {dst : Option Nat} {op : Op} {r : List (Nat × Bool)} {pf : PF} {j : Nat}
/-- A call whose result is owned. -/
theorem VO_co {f : Operand} {fi : Nat} {args : Array Operand} {at_ : Array TypeId} {dargs : List SV} {es : List TypeId} {us : List U} (hspec : SpecO P fi dargs es us) (h : VO P A ops rest ⟨(t, sv) :: fr, L', N⟩ K) (hf : (St.mk fr L N).ev f = .fn fi [] := by rfl)
    (hargs : WCs L (args.toList.map (St.mk fr L N).ev) dargs := by ((repeat (first | exact trivial | exact rfl | exact ⟨_, rfl⟩ | refine And.intro ?_ ?_)); first | done | fail)) (hn : Ln L n := by repeat constructor) (hy : OYr n es us sv news := by ((repeat constructor); first | done | fail)) (hj : Jn L news L' := by repeat constructor) (ht : Nat.blt t N = true := by rfl) :
    VO P A ops (⟨some t, .call { callee := .value f, args := args, argTypes := at_ }, ty, pos, af, none⟩ :: rest) ⟨fr, L, N⟩ K := VO_callO hf hspec hargs hn hy hj ht h
theorem VY_co {f : Operand} {fi : Nat} {args : Array Operand} {at_ : Array TypeId} {dargs : List SV} {es : List TypeId} {us : List U} (hspec : SpecO P fi dargs es us) (h : VY P A ops K r pf ⟨(t, sv) :: fr, L', N⟩)
    (hi : ops[i]? = some ⟨some t, .call { callee := .value f, args := args, argTypes := at_ }, ty, pos, af, none⟩ := by rfl) (hf : (St.mk fr L N).ev f = .fn fi [] := by rfl)
    (hargs : WCs L (args.toList.map (St.mk fr L N).ev) dargs := by ((repeat (first | exact trivial | exact rfl | exact ⟨_, rfl⟩ | refine And.intro ?_ ?_)); first | done | fail)) (hn : Ln L n := by repeat constructor) (hy : OYr n es us sv news := by ((repeat constructor); first | done | fail)) (hj : Jn L news L' := by repeat constructor) (ht : Nat.blt t N = true := by rfl)
    (hp : PfOk ops i L' pf := by (repeat (first | exact PfOk.nil | (apply PfOk.keep; focus ((repeat constructor); done)) | (apply PfOk.dep; focus kernel_rfl)))) :
    VY P A ops K ((i, false) :: r) pf ⟨fr, L, N⟩ := VY_hst hi (HSt_callO hf hspec hargs hn hy hj ht) hp h
/-- make([]T, n), owned. -/
theorem VO_mk {α : Type} {en : α → U} {es : List α → List U} {z : Nat} [E : Enc α en es z] (a0 : α) {e bs m : Nat} {gg : Bool} (hg : m ≤ 4294967296) [TE P T e] [TI P e gg z bs] {zs : List Value} [TZ P e zs] (h : VO P A ops rest ⟨(t, .sl i 0) :: fr, L', N⟩ K)
    (hx : (St.mk fr L N).ev x = .d (.i .i64 (m : Int)) := by rfl) (hy : (St.mk fr L N).ev y = .d (.i .i64 (m : Int)) := by rfl) (hzu : ZeroT (en a0) zs := by exact zeroT (by repeat constructor) (by repeat constructor)) (hz : (Nat.blt 0 z && zs.length == z) = true := by rfl) (hb : Nat.ble bs 32768 = true := by rfl)
    (ht : Nat.blt t N = true := by rfl) (hL' : Sn (.own e z 0 (es (List.replicate m a0))) L i L' := by repeat constructor) :
    VO P A ops (⟨some t, .makeSlice T x y, ty, pos, af, none⟩ :: rest) ⟨fr, L, N⟩ K := by
  have hb := Nat.le_of_ble_eq_true hb
  rw [Enc.rep (es := es)] at hL'
  refine VR_make hx hy TE.h TI.h TZ.h hz hzu (Int.natCast_nonneg m) (Int.le_refl _) (by rw [big_eq]; omega) ?_ ht (by rwa [Int.toNat_natCast]) h
  have : bs * m ≤ 32768 * 4294967296 := Nat.mul_le_mul hb hg
  omega
theorem Q_ixo {α : Type} {en : α → U} {es : List α → List U} {z : Nat} [E : Enc α en es z] {e bs ver e' : Nat} {gg : Bool} {l : List α} (k : Nat) (hk : k < l.length) [TE P T e] [TI P e gg z bs] (hx : σ.ev x = .sl j ver := by rfl) (hL : σ.L[j]? = some (.own e' z ver (es l)) := by rfl) (hy : σ.ev y = .d (.i .i64 (k : Int)) := by rfl) :
    Quiet P A σ ⟨dst, .indexAddr T x y, ty, pos, af, g⟩ (.ep j ver z k 0) := by
  have := Q_index_own (P := P) (A := A) (dst := dst) (ty := ty) (pos := pos) (af := af) (g := g) hx hL .own hy (TE.h : tyE P T = some e) (TI.h : tyI P e = some (gg, z, bs)) (Int.natCast_nonneg k) (by rw [Enc.len]; omega)
  simpa using this
/-- A whole element is stored. -/
theorem VO_st {α : Type} {en : α → U} {es : List α → List U} {z : Nat} [E : Enc α en es z] {e bs ver k : Nat} {gg : Bool} {l : List α} (a : α) {js : List Nat} (hk : k < l.length) [TI P T gg z bs] (h : VO P A ops rest ⟨fr, L', N⟩ K) (hx : (St.mk fr L N).ev x = .ep i ver z k 0 := by rfl) (hL : L[i]? = some (.own e z ver (es l)) := by rfl)
    (hy : OV L ((St.mk fr L N).ev y) (en a) js := by ((repeat constructor); first | done | fail)) (hjs : (decide js.Nodup && !js.contains i) = true := by decide) (hk1 : KR js L L1 := by repeat constructor) (hL' : St1 (.own e z ver (es (l.set k a))) i L1 L' := by repeat constructor) :
    VO P A ops (⟨none, .store T x y, ty, pos, af, none⟩ :: rest) ⟨fr, L, N⟩ K := by
  rw [Enc.set (es := es)] at hL'
  exact VR_store hx hL hy hjs TI.h (Enc.hz a) (by rw [Enc.len]; exact hk) hk1 hL' h
/-- A literal of one element, owned. -/
theorem VO_l1t {α : Type} {en : α → U} {es : List α → List U} {z : Nat} [E : Enc α en es z] (a : α) {e bs : Nat} {gg : Bool} [TE P T e] [TI P e gg z bs] {zs : List Value} [TZ P e zs] {js : List Nat} (h : VO P A ops rest ⟨(t, .sl i 0) :: fr, L', N⟩ K) (hy : OV L ((St.mk fr L N).ev x) (en a) js := by ((repeat constructor); first | done | fail)) (hjs : decide js.Nodup = true := by decide)
    (hz : (Nat.blt 0 z && Nat.blt z 16777216 && zs.length == z) = true := by rfl) (ht : Nat.blt t N = true := by rfl) (hk1 : KR js L L1 := by repeat constructor) (hL' : Sn (.own e z 0 (es [a])) L1 i L' := by repeat constructor) :
    VO P A ops (⟨some t, .buildSlice T 1 #[(0, x)], ty, pos, af, none⟩ :: rest) ⟨fr, L, N⟩ K := by
  have e1 : es [a] = [en a] := by rw [E.h]; rfl
  rw [e1] at hL'
  exact VR_slit1 hy hjs TE.h TI.h TZ.h hz (Enc.hz a) ht hk1 hL' h
theorem VY_l1t {α : Type} {en : α → U} {es : List α → List U} {z : Nat} [E : Enc α en es z] (a : α) {e bs m : Nat} {gg : Bool} [TE P T e] [TI P e gg z bs] {zs : List Value} [TZ P e zs] {js : List Nat} (h : VY P A ops K r pf ⟨(t, .sl m 0) :: fr, L', N⟩) (hi : ops[i]? = some ⟨some t, .buildSlice T 1 #[(0, x)], ty, pos, af, none⟩ := by rfl) (hy : OV L ((St.mk fr L N).ev x) (en a) js := by ((repeat constructor); first | done | fail)) (hjs : decide js.Nodup = true := by decide)
    (hz : (Nat.blt 0 z && Nat.blt z 16777216 && zs.length == z) = true := by rfl) (ht : Nat.blt t N = true := by rfl) (hk1 : KR js L L1 := by repeat constructor) (hL' : Sn (.own e z 0 (es [a])) L1 m L' := by repeat constructor)
    (hp : PfOk ops i L' pf := by (repeat (first | exact PfOk.nil | (apply PfOk.keep; focus ((repeat constructor); done)) | (apply PfOk.dep; focus kernel_rfl)))) :
    VY P A ops K ((i, false) :: r) pf ⟨fr, L, N⟩ := by
  have e1 : es [a] = [en a] := by rw [E.h]; rfl
  rw [e1] at hL'
  exact VY_hst hi (HSt_slit1 hy hjs TE.h TI.h TZ.h hz (Enc.hz a) ht hk1 hL') hp h
theorem VY_l0 {e z bs m : Nat} {gg : Bool} [TE P T e] [TI P e gg z bs] (h : VY P A ops K r pf ⟨(t, .sl m 0) :: fr, L', N⟩) (hi : ops[i]? = some ⟨some t, .buildSlice T 0 #[], ty, pos, af, none⟩ := by rfl) (ht : Nat.blt t N = true := by rfl) (hL' : Sn (.own e z 0 []) L m L' := by repeat constructor)
    (hp : PfOk ops i L' pf := by (repeat (first | exact PfOk.nil | (apply PfOk.keep; focus ((repeat constructor); done)) | (apply PfOk.dep; focus kernel_rfl)))) :
    VY P A ops K ((i, false) :: r) pf ⟨fr, L, N⟩ := VY_hst hi (HSt_slit0 TE.h TI.h ht hL') hp h
/-- Append to an owned array, in a drawn region. -/
theorem VY_ap {α : Type} {en : α → U} {es : List α → List U} {z : Nat} [E : Enc α en es z] {l l' : List α} (hg : l.length + l'.length ≤ 4294967296) {e bs ver m : Nat} {gg : Bool} [TE P T e] [TI P e gg z bs] {zs : List Value} [TZ P e zs] {js : List Nat} {T' : TypeId}
    (h : VY P A ops K r pf ⟨(t, .sl m (ver + 1)) :: fr, L', N⟩) (hi : ops[i]? = some ⟨some t, .call { callee := .builtin .append, args := #[x, y], argTypes := #[T, T] }, T', pos, af, none⟩ := by rfl) (hx : (St.mk fr L N).ev x = .sl m ver := by rfl) (hL : L[m]? = some (.own e z ver (es l)) := by rfl) (hs : SrcO L z ((St.mk fr L N).ev y) (es l') js := by first | exact .own rfl | exact .nil | exact .data (Enc.all _) (eStrs_noSl _) | exact .data (Enc.all _) (eInts_noSl _))
    (hjs : (decide js.Nodup && !js.contains m) = true := by decide) (hz : (Nat.blt 0 z && zs.length == z) = true := by rfl) (hb : Nat.ble bs 32768 = true := by rfl)
    (ht : Nat.blt t N = true := by rfl) (hk1 : KR js L L1 := by repeat constructor) (hL' : St1 (.own e z (ver + 1) (es (l ++ l'))) m L1 L' := by repeat constructor)
    (hp : PfOk ops i L' pf := by (repeat (first | exact PfOk.nil | (apply PfOk.keep; focus ((repeat constructor); done)) | (apply PfOk.dep; focus kernel_rfl)))) :
    VY P A ops K ((i, false) :: r) pf ⟨fr, L, N⟩ := by
  have h1 : (es l).length = l.length := Enc.len l
  have h2 : (es l').length = l'.length := Enc.len l'
  have hb := Nat.le_of_ble_eq_true hb
  rw [Enc.app (es := es)] at hL'
  refine VY_hst hi (HSt_append hx hL hs hjs TE.h TI.h TZ.h hz (by rw [big_eq]; omega) ?_ ht hk1 hL') hp h
  rw [h1, h2]
  exact Nat.le_trans (Nat.mul_le_mul hg hb) (by decide)
/-- The first append to nil. -/
theorem VO_ap0 {α : Type} {en : α → U} {es : List α → List U} {z : Nat} [E : Enc α en es z] {l' : List α} (hg : l'.length ≤ 4294967296) {e bs : Nat} {gg : Bool} [TE P T e] [TI P e gg z bs] {zs : List Value} [TZ P e zs] {js : List Nat} {T' : TypeId}
    (h : VO P A ops rest ⟨(t, .sl i 0) :: fr, L', N⟩ K) (hx : (St.mk fr L N).ev x = .nilsl := by rfl) (hs : SrcO L z ((St.mk fr L N).ev y) (es l') js := by first | exact .own rfl | exact .nil | exact .data (Enc.all _) (eStrs_noSl _) | exact .data (Enc.all _) (eInts_noSl _))
    (hjs : decide js.Nodup = true := by decide) (hz : (Nat.blt 0 z && zs.length == z) = true := by rfl) (hb : Nat.ble bs 32768 = true := by rfl)
    (ht : Nat.blt t N = true := by rfl) (hk1 : KR js L L1 := by repeat constructor) (hL' : Sn (.own e z 0 (es l')) L1 i L' := by repeat constructor) :
    VO P A ops (⟨some t, .call { callee := .builtin .append, args := #[x, y], argTypes := #[T, T] }, T', pos, af, none⟩ :: rest) ⟨fr, L, N⟩ K := by
  have h2 : (es l').length = l'.length := Enc.len l'
  have hb := Nat.le_of_ble_eq_true hb
  refine VR_append_nil hx hs hjs TE.h TI.h TZ.h hz (by rw [big_eq]; omega) ?_ ht hk1 hL' h
  rw [h2]
  exact Nat.le_trans (Nat.mul_le_mul hg hb) (by decide)
end
end Go.Eng
