/- The engine, part 34: rules in a compact form, for walks written by program. -/
import Derived.Test.YtiaghdodeinecaaEng33
import Derived.KernelRfl
set_option linter.unusedVariables false
set_option linter.unusedSimpArgs false
namespace Go.Eng
open Go Go.RowKit
class Mix (P : Program) : Prop where
  h : P.follows .mixedOrders = true
theorem V_seqseq {P : Program} {A : Amb} {σ : St} {Q : Exit → St → Prop} {x y z : Code} (h : V P A (.seq x y) σ (thenS (fun s => V P A z s Q) Q)) : V P A (.seq (.seq x y) z) σ Q := V_seq h
/-! ### models -/
def cnd {α : Type} (c : Bool) (x y : α) : α := match c with
  | true => x
  | false => y
def bnd {α β : Type} (o : Option α) (k : α → Option β) : Option β := match o with
  | some x => k x
  | none => none
def lt_ {α β : Type} (x : α) (k : α → β) : β := k x
def gd {α : Type} (c : Prop) [Decidable c] (k : Option α) : Option α := if c then k else none
theorem cnd_t {α : Type} {c : Bool} {x y r : α} (hc : c = true) (h : cnd c x y = r) : x = r := by subst hc; exact h
theorem cnd_f {α : Type} {c : Bool} {x y r : α} (hc : c = false) (h : cnd c x y = r) : y = r := by subst hc; exact h
theorem bnd_s {α β : Type} {o : Option α} {k : α → Option β} {r : β} (h : bnd o k = some r) : ∃ x, o = some x ∧ k x = some r := by
  cases o with
  | none => cases h
  | some x => exact ⟨x, rfl, h⟩
theorem bnd_eq {α β : Type} {o : Option α} {k : α → Option β} {x : α} (h : o = some x) : bnd o k = k x := by subst h; rfl
theorem gd_s {α : Type} {c : Prop} [Decidable c] {k : Option α} {r : α} (h : gd c k = some r) : c ∧ k = some r := by
  unfold gd at h
  split at h
  · exact ⟨by assumption, h⟩
  · cases h
theorem gd_eq {α : Type} {c : Prop} [Decidable c] {k : Option α} (hc : c) : gd c k = k := by unfold gd; rw [if_pos hc]
theorem cnd_true {α : Type} {x y : α} : cnd true x y = x := rfl
theorem cnd_false {α : Type} {x y : α} : cnd false x y = y := rfl
/-- An element by a number that may be anything. -/
def at? {α : Type} (l : List α) (i : Int) : Option α := if 0 ≤ i then l[i.toNat]? else none
theorem at_s {α : Type} {l : List α} {i : Int} {x : α} (h : at? l i = some x) : 0 ≤ i ∧ l[i.toNat]? = some x := by
  unfold at? at h
  split at h
  · exact ⟨by assumption, h⟩
  · cases h
theorem at_nat {α : Type} (l : List α) (k : Nat) : at? l (k : Int) = l[k]? := by unfold at?; rw [if_pos (Int.natCast_nonneg k)]; rfl
theorem drop_at {α : Type} {l : List α} {k : Nat} (h : k < l.length) : ∃ x, l[k]? = some x ∧ l.drop k = x :: l.drop (k + 1) :=
  ⟨l[k], List.getElem?_eq_getElem h, List.drop_eq_getElem_cons h⟩
theorem drop_end {α : Type} {l : List α} {k : Nat} (h : l.length ≤ k) : l.drop k = [] := List.drop_eq_nil_of_le h
section
variable {P : Program} {A : Amb} {ops : Array Oper} {K : St → Prop} {Q : Exit → St → Prop} {rest : List Oper} {σ : St} {fr : List (Nat × SV)} {L L' : List LO} {N i t : Nat} {sv : SV} {o : Oper}
variable {ty T : TypeId} {pos : String} {af : Array Edge} {x y : Operand} {g : Option (Nat × Bool)} {dst : Option Nat} {op : Op}
/-! ### quiet operations that look at their operands alone -/
def QR (P : Program) (σ : St) (o : Oper) (sv : SV) : Prop := ∀ A fr' L', (∀ x ∈ o.op.operands.toList, St.ev ⟨fr', L', σ.N⟩ x = σ.ev x) → Keep σ.L L' → Quiet P A ⟨fr', L', σ.N⟩ o sv
theorem QR.q (h : QR P σ o sv) : Quiet P A σ o sv := h A σ.fr σ.L (fun _ _ => rfl) (Keep.refl _)
theorem VO_r (hq : QR P ⟨fr, L, N⟩ ⟨some t, op, ty, pos, af, none⟩ sv) (h : VO P A ops rest ⟨(t, sv) :: fr, L, N⟩ K) (ht : Nat.blt t N = true := by rfl) : VO P A ops (⟨some t, op, ty, pos, af, none⟩ :: rest) ⟨fr, L, N⟩ K := VO_q hq.q ht h
theorem VQ_r (hq : QR P ⟨fr, L, N⟩ ⟨some t, op, ty, pos, af, none⟩ sv) (h : VQ P A ops rest ⟨(t, sv) :: fr, L, N⟩ K) (ht : Nat.blt t N = true := by rfl) : VQ P A ops (⟨some t, op, ty, pos, af, none⟩ :: rest) ⟨fr, L, N⟩ K := VQ_q hq.q ht h
theorem VY_r {r : List (Nat × Bool)} {pf : PF} (hq : QR P ⟨fr, L, N⟩ ⟨some t, op, ty, pos, af, none⟩ sv) (hv : VY P A ops K r ((i, L) :: pf) ⟨(t, sv) :: fr, L, N⟩) (hi : ops[i]? = some ⟨some t, op, ty, pos, af, none⟩ := by rfl) (ht : Nat.blt t N = true := by rfl) : VY P A ops K ((i, true) :: r) pf ⟨fr, L, N⟩ :=
  VY_qr hi rfl rfl (fun fr' L' he hk => hq A fr' L' he hk) ht hv
theorem VO_k (hq : Quiet P A ⟨fr, L, N⟩ ⟨some t, op, ty, pos, af, none⟩ sv) (h : VO P A ops rest ⟨(t, sv) :: fr, L, N⟩ K) (ht : Nat.blt t N = true := by rfl) : VO P A ops (⟨some t, op, ty, pos, af, none⟩ :: rest) ⟨fr, L, N⟩ K := VO_q hq ht h
theorem VQ_k (hq : Quiet P A ⟨fr, L, N⟩ ⟨some t, op, ty, pos, af, none⟩ sv) (h : VQ P A ops rest ⟨(t, sv) :: fr, L, N⟩ K) (ht : Nat.blt t N = true := by rfl) : VQ P A ops (⟨some t, op, ty, pos, af, none⟩ :: rest) ⟨fr, L, N⟩ K := VQ_q hq ht h
/-- A guarded operation that runs, laid bare. -/
theorem VO_b {j tj : Nat} {want : Bool} {o' : Oper} (h : VO P A ops (⟨dst, op, ty, pos, af, none⟩ :: rest) ⟨fr, L, N⟩ K) (hj : ops[j]? = some o' := by rfl) (hdst : o'.dst = some tj := by rfl) (htj : Nat.blt tj N = true := by rfl) (hb : look fr tj = .d (.b want) := by rfl) :
    VO P A ops (⟨dst, op, ty, pos, af, some (j, want)⟩ :: rest) ⟨fr, L, N⟩ K := VO_bare hj hdst htj hb h
section
variable {e z bs k : Nat} {gg : Bool} {kd : IntKind} {us : List U} {u : U}
theorem QR_ixn [TE P T e] [TI P e gg z bs] (k : Nat) (hu : us[k]? = some u) (hx : σ.ev x = .d (.sl z us) := by rfl) (hy : σ.ev y = .d (.i kd (k : Int)) := by rfl) : QR P σ ⟨dst, .indexAddr T x y, ty, pos, af, g⟩ (.dp u) :=
  fun A fr' L' he _ => Q_index (by rw [he x (by simp [Op.operands])]; exact hx) (by rw [he y (by simp [Op.operands])]; exact hy) TE.h TI.h (Int.natCast_nonneg k) hu
theorem QR_ixi [TE P T e] [TI P e gg z bs] {n : Int} (h0 : 0 ≤ n) (hu : us[n.toNat]? = some u) (hx : σ.ev x = .d (.sl z us) := by rfl) (hy : σ.ev y = .d (.i kd n) := by rfl) : QR P σ ⟨dst, .indexAddr T x y, ty, pos, af, g⟩ (.dp u) :=
  fun A fr' L' he _ => Q_index (by rw [he x (by simp [Op.operands])]; exact hx) (by rw [he y (by simp [Op.operands])]; exact hy) TE.h TI.h h0 hu
end
/-- Arithmetic that wraps. -/
theorem QR_ar {b : BinOp} {T' : TypeId} {k : IntKind} {m n r : Int} (h : arI b k m n = some r := by rfl) (hx : σ.ev x = .d (.i k m) := by rfl) (hy : σ.ev y = .d (.i k n) := by rfl) : QR P σ ⟨dst, .binOp b T x y T', ty, pos, af, g⟩ (.d (.i k r)) :=
  fun A fr' L' he _ => Q_ar (by rw [he x (by simp [Op.operands])]; exact hx) (by rw [he y (by simp [Op.operands])]; exact hy) h
/-- Counting on by one. -/
theorem QR_inc {T' : TypeId} (k : Nat) (hk : k < 9223372036854775807) (hx : σ.ev x = .d (.i .i64 (k : Int)) := by rfl) (hy : σ.ev y = .d (.i .i64 1) := by rfl) : QR P σ ⟨dst, .binOp .add T x y T', ty, pos, af, g⟩ (.d (.i .i64 ((k + 1 : Nat) : Int))) :=
  fun A fr' L' he _ => by
    have := Q_add (P := P) (A := A) (dst := dst) (ty := ty) (pos := pos) (af := af) (g := g) (T := T) (T' := T') (σ := ⟨fr', L', σ.N⟩) (m := (k : Int)) (n := 1) (by rw [he x (by simp [Op.operands])]; exact hx) (by rw [he y (by simp [Op.operands])]; exact hy) (by omega) (by omega)
    simpa using this
/-- A closure is made. -/
theorem QR_fn {f : Nat} {cs : Array Operand} {svs : List SV} (h : NfL σ cs.toList svs := by repeat constructor) : QR P σ ⟨dst, .makeFunc (.func f) #[] cs, ty, pos, af, g⟩ (.fn f svs) :=
  fun A fr' L' he _ => Q_mkfn (by
    have key : ∀ (l : List Operand) (svs : List SV), (∀ x ∈ l, St.ev ⟨fr', L', σ.N⟩ x = σ.ev x) → NfL σ l svs → NfL ⟨fr', L', σ.N⟩ l svs := by
      intro l svs hl h
      induction h with
      | nil => exact .nil
      | cons h1 h2 ih => exact .cons (by rw [hl _ (by simp)]; exact h1) (ih fun x hx => hl x (by simp [hx]))
    exact key _ _ (fun x hx => he x (by simpa [Op.operands] using hx)) h)
/-- A call of a pure function, its arguments plain data. -/
theorem QR_call {f : Operand} {fi : Nat} {caps : List SV} {args : Array Operand} {at_ : Array TypeId} {dargs : List SV} {us : List U}
    (hspec : SpecP P fi dargs us) (hf : σ.ev f = .fn fi caps := by rfl) (hargs : ∀ L', VAs L' (args.toList.map σ.ev ++ caps) dargs := by (intro L'; (repeat (first | exact trivial | exact rfl | exact ⟨_, rfl⟩ | exact (‹∀ n, SV.lts n _ = true› _) | refine And.intro ?_ ?_)); first | done | fail)) :
    QR P σ ⟨dst, .call { callee := .value f, args := args, argTypes := at_ }, ty, pos, af, g⟩ (mkR us) :=
  fun A fr' L' he _ => Q_call (by rw [he f (by simp [Op.operands, Call.operands])]; exact hf) hspec (by
    have : args.toList.map (St.ev ⟨fr', L', σ.N⟩) = args.toList.map σ.ev := List.map_congr_left fun x hx => he x (by simp only [Op.operands, Call.operands]; simp; exact .inr (by simpa using hx))
    rw [this]
    exact hargs L')
/-- The like, the arguments as this state has them. -/
theorem Q_cl {f : Operand} {fi : Nat} {caps : List SV} {args : Array Operand} {at_ : Array TypeId} {dargs : List SV} {us : List U}
    (hspec : SpecP P fi dargs us) (hf : σ.ev f = .fn fi caps := by rfl) (hargs : VAs σ.L (args.toList.map σ.ev ++ caps) dargs := by ((repeat (first | exact trivial | exact rfl | exact ⟨_, rfl⟩ | exact (‹∀ n, SV.lts n _ = true› _) | refine And.intro ?_ ?_)); first | done | fail)) :
    Quiet P A σ ⟨dst, .call { callee := .value f, args := args, argTypes := at_ }, ty, pos, af, g⟩ (mkR us) := Q_call hf hspec hargs
/-- Boxes lent to closures; a scalar comes back. -/
theorem Q_cb {f : Operand} {fi : Nat} {args : Array Operand} {at_ : Array TypeId} {dargs : List SV} {u : U}
    (hspec : SpecP P fi dargs [u]) (hu : u.scal = true := by rfl) (hf : σ.ev f = .fn fi [] := by rfl) (hargs : WCs σ.L (args.toList.map σ.ev) dargs := by ((repeat (first | exact trivial | exact rfl | exact ⟨_, rfl⟩ | refine And.intro ?_ ?_)); first | done | fail)) :
    Quiet P A σ ⟨dst, .call { callee := .value f, args := args, argTypes := at_ }, ty, pos, af, g⟩ (.d u) := Q_calll hf hspec hu hargs
/-- A slot that holds a bool: both ways. -/
theorem VO_case {c : Bool} (tj : Nat) (ht : c = true → VO P A ops rest ⟨(tj, .d (.b true)) :: fr, L, N⟩ K) (hf : c = false → VO P A ops rest ⟨(tj, .d (.b false)) :: fr, L, N⟩ K) (hb : look fr tj = .d (.b c) := by rfl) : VO P A ops rest ⟨fr, L, N⟩ K := by
  intro R hR a w hr
  have key : ∀ c', c = c' → Realz A ⟨(tj, .d (.b c')) :: fr, L, N⟩ a w := by
    intro c' hc
    obtain ⟨S, env, hH, hfr, hN, hd⟩ := hr
    refine ⟨S, env, hH, fun t => ?_, hN, hd⟩
    simp only [look]
    by_cases h : t = tj
    · subst h
      rw [if_pos rfl, ← hc, ← hb]
      exact hfr t
    · rw [if_neg h]
      exact hfr t
  cases hc : c with
  | true => exact ht hc R hR a w (key true hc)
  | false => exact hf hc R hR a w (key false hc)
theorem V_ct {c : Operand} {x y : Code} (h : V P A x σ Q) (hc : σ.ev c = .d (.b true) := by rfl) : V P A (.cond c x y) σ Q := V_cond hc (fun _ => h) (fun h => by cases h)
theorem V_cf {c : Operand} {x y : Code} (h : V P A y σ Q) (hc : σ.ev c = .d (.b false) := by rfl) : V P A (.cond c x y) σ Q := V_cond hc (fun h => by cases h) (fun _ => h)
theorem V_cb {c : Operand} {x y : Code} {t : Bool} (ht : t = true → V P A x σ Q) (hf : t = false → V P A y σ Q) (hc : σ.ev c = .d (.b t) := by rfl) : V P A (.cond c x y) σ Q := V_cond hc ht hf
end
end Go.Eng
set_option linter.unusedVariables false
namespace Go.Eng
open Go Go.RowKit
def eStr (s : List UInt8) : U := .s s
def eStrs : List (List UInt8) → List U
  | [] => []
  | a :: l => .s a :: eStrs l
class Enc (α : Type) (e : outParam (α → U)) (es : outParam (List α → List U)) (z : outParam Nat) : Prop where
  h : ∀ l, es l = l.map e
  hz : ∀ x, (e x).sz = z
theorem Enc.get {α : Type} {e : α → U} {es : List α → List U} {z : Nat} [E : Enc α e es z] {l : List α} {k : Nat} {x : α} (h : l[k]? = some x) : (es l)[k]? = some (e x) := by rw [E.h, List.getElem?_map, h]; rfl
theorem Enc.len {α : Type} {e : α → U} {es : List α → List U} {z : Nat} [E : Enc α e es z] (l : List α) : (es l).length = l.length := by rw [E.h, List.length_map]
theorem Enc.app {α : Type} {e : α → U} {es : List α → List U} {z : Nat} [E : Enc α e es z] (l r : List α) : es (l ++ r) = es l ++ es r := by simp only [E.h, List.map_append]
theorem Enc.set {α : Type} {e : α → U} {es : List α → List U} {z : Nat} [E : Enc α e es z] (l : List α) (k : Nat) (x : α) : es (l.set k x) = (es l).set k (e x) := by simp only [E.h, List.map_set]
theorem Enc.rep {α : Type} {e : α → U} {es : List α → List U} {z : Nat} [E : Enc α e es z] (n : Nat) (x : α) : es (List.replicate n x) = List.replicate n (e x) := by simp only [E.h, List.map_replicate]
theorem Enc.all {α : Type} {e : α → U} {es : List α → List U} {z : Nat} [E : Enc α e es z] (l : List α) : ∀ u ∈ es l, u.sz = z := by
  rw [E.h]
  intro u hu
  obtain ⟨x, _, rfl⟩ := List.mem_map.1 hu
  exact E.hz x
instance : Enc (List UInt8) eStr eStrs 1 := ⟨fun l => by induction l with | nil => rfl | cons a l ih => simp [eStrs, ih, eStr], fun _ => rfl⟩
theorem gStr {l : List (List UInt8)} {k : Nat} {x : List UInt8} (h : l[k]? = some x) : (eStrs l)[k]? = some (.s x) := Enc.get h
theorem eStrs_noSl (l : List (List UInt8)) : U.noSls (eStrs l) = true := by induction l with | nil => rfl | cons a l ih => simp [eStrs, U.noSls, U.noSl, ih]
structure TType where
  kind : Int
  name : List UInt8
  args : List TType
mutual
def eType : TType → U
  | ⟨f0, f1, f2⟩ => .st [.i .i64 f0, .s f1, .sl 3 (eTypes f2)]
def eTypes : List TType → List U
  | [] => []
  | a :: l => eType a :: eTypes l
end
theorem eType_sz (x : TType) : (eType x).sz = 3 := by cases x; simp [eType, U.sz, U.szs]
instance : Enc TType eType eTypes 3 := ⟨fun l => by induction l with | nil => rfl | cons a l ih => simp [eTypes, ih], eType_sz⟩
theorem gType {l : List TType} {k : Nat} {x : TType} (h : l[k]? = some x) : (eTypes l)[k]? = some (eType x) := Enc.get h
structure TBinding where
  var_ : List UInt8
  type_ : TType
mutual
def eBinding : TBinding → U
  | ⟨f0, f1⟩ => .st [.s f0, eType f1]
def eBindings : List TBinding → List U
  | [] => []
  | a :: l => eBinding a :: eBindings l
end
theorem eBinding_sz (x : TBinding) : (eBinding x).sz = 4 := by cases x; simp [eBinding, U.sz, U.szs, eType_sz]
instance : Enc TBinding eBinding eBindings 4 := ⟨fun l => by induction l with | nil => rfl | cons a l ih => simp [eBindings, ih], eBinding_sz⟩
theorem gBinding {l : List TBinding} {k : Nat} {x : TBinding} (h : l[k]? = some x) : (eBindings l)[k]? = some (eBinding x) := Enc.get h
mutual
structure TArm where
  constructor : List UInt8
  vars : List (List UInt8)
  body : TExpr
structure TExpr where
  kind : Int
  trait : List UInt8
  name : List UInt8
  n : Int
  type_ : TType
  args : List TExpr
  arms : List TArm
end
mutual
def eArm : TArm → U
  | ⟨f0, f1, f2⟩ => .st [.s f0, .sl 1 (eStrs f1), eExpr f2]
def eArms : List TArm → List U
  | [] => []
  | a :: l => eArm a :: eArms l
def eExpr : TExpr → U
  | ⟨f0, f1, f2, f3, f4, f5, f6⟩ => .st [.i .i64 f0, .s f1, .s f2, .i .i64 f3, eType f4, .sl 9 (eExprs f5), .sl 11 (eArms f6)]
def eExprs : List TExpr → List U
  | [] => []
  | a :: l => eExpr a :: eExprs l
end
theorem eExpr_sz (x : TExpr) : (eExpr x).sz = 9 := by cases x; simp [eExpr, U.sz, U.szs, eType_sz]
instance : Enc TExpr eExpr eExprs 9 := ⟨fun l => by induction l with | nil => rfl | cons a l ih => simp [eExprs, ih], eExpr_sz⟩
structure TBound where
  trait : List UInt8
  type_ : TType
mutual
def eBound : TBound → U
  | ⟨f0, f1⟩ => .st [.s f0, eType f1]
def eBounds : List TBound → List U
  | [] => []
  | a :: l => eBound a :: eBounds l
end
theorem eBound_sz (x : TBound) : (eBound x).sz = 4 := by cases x; simp [eBound, U.sz, U.szs, eType_sz]
instance : Enc TBound eBound eBounds 4 := ⟨fun l => by induction l with | nil => rfl | cons a l ih => simp [eBounds, ih], eBound_sz⟩
structure TMethod where
  name : List UInt8
  vars : List (List UInt8)
  body : TExpr
mutual
def eMethod : TMethod → U
  | ⟨f0, f1, f2⟩ => .st [.s f0, .sl 1 (eStrs f1), eExpr f2]
def eMethods : List TMethod → List U
  | [] => []
  | a :: l => eMethod a :: eMethods l
end
theorem eMethod_sz (x : TMethod) : (eMethod x).sz = 11 := by cases x; simp [eMethod, U.sz, U.szs, eExpr_sz]
instance : Enc TMethod eMethod eMethods 11 := ⟨fun l => by induction l with | nil => rfl | cons a l ih => simp [eMethods, ih], eMethod_sz⟩
structure TInstance where
  trait : List UInt8
  vars : List (List UInt8)
  head : TType
  where_ : List TBound
  default_ : Bool
  hasAssoc : Bool
  assoc : TType
  methods : List TMethod
mutual
def eInstance : TInstance → U
  | ⟨f0, f1, f2, f3, f4, f5, f6, f7⟩ => .st [.s f0, .sl 1 (eStrs f1), eType f2, .sl 4 (eBounds f3), .b f4, .b f5, eType f6, .sl 11 (eMethods f7)]
def eInstances : List TInstance → List U
  | [] => []
  | a :: l => eInstance a :: eInstances l
end
end Go.Eng
set_option linter.unusedVariables false
set_option linter.unusedSimpArgs false
namespace Go.Eng
open Go Go.RowKit
theorem lt_x {α β : Type} {v : α} {k : α → β} {r : β} (h : lt_ v k = r) : ∃ x, v = x ∧ k x = r := ⟨v, rfl, h⟩
section
variable {l : List UInt8} {k n : Nat}
theorem kltN (h : decide ((k : Int) < (n : Int)) = true) : k < n := by have h := of_decide_eq_true h; omega
theorem kgeN (h : decide ((k : Int) < (n : Int)) = false) : n ≤ k := by have h := of_decide_eq_false h; omega
end
section
variable {P : Program} {A : Amb} {ops : Array Oper} {K : St → Prop} {Q : Exit → St → Prop} {rest : List Oper} {σ : St} {c : Code}
theorem VO_join (σJ : St) (h1 : VO P A ops rest σ (fun s => Le s σJ)) (h2 : K σJ) (hA : A.L0.length ≤ σJ.L.length := by rw [BaseN.h (A := A)]; exact Nat.le_of_ble_eq_true rfl) : VO P A ops rest σ K :=
  fun R hR a w hr => h1 R (fun σ' a' w' hle hr' => hR σJ a' w' h2 (hr'.le hle hA)) a w hr
theorem V_loop1 {α0 : Type} (I : α0 → St) (J : α0 → Prop) (μ : α0 → Nat) (x0 : α0) (h0 : Le σ (I x0)) (hJ : J x0)
    (round : ∀ a0, J a0 → V P A c (I a0) (thenS (fun s => ∃ b0, J b0 ∧ μ b0 < μ a0 ∧ Le s (I b0)) Q)) (hA : ∀ a0, A.L0.length ≤ (I a0).L.length := by intros; rw [BaseN.h (A := A)]; exact Nat.le_of_ble_eq_true rfl) : V P A (.loop c) σ Q :=
  V_loop (α := α0) (fun x => I (x)) (fun x => J (x)) (fun x => μ (x)) (x0) h0 hJ (fun x hx => V.mono (round (x) hx) (fun e s hq => by
    cases e with
    | normal =>
      obtain ⟨b0, h1, h2, h3⟩ := hq
      exact ⟨(b0), h1, h2, h3⟩
    | _ => exact hq)) (fun x => hA (x))
theorem V_loop2 {α0 α1 : Type} (I : α0 → α1 → St) (J : α0 → α1 → Prop) (μ : α0 → α1 → Nat) (x0 : α0) (x1 : α1) (h0 : Le σ (I x0 x1)) (hJ : J x0 x1)
    (round : ∀ a0 a1, J a0 a1 → V P A c (I a0 a1) (thenS (fun s => ∃ b0 b1, J b0 b1 ∧ μ b0 b1 < μ a0 a1 ∧ Le s (I b0 b1)) Q)) (hA : ∀ a0 a1, A.L0.length ≤ (I a0 a1).L.length := by intros; rw [BaseN.h (A := A)]; exact Nat.le_of_ble_eq_true rfl) : V P A (.loop c) σ Q :=
  V_loop (α := α0 × α1) (fun x => I (x.1) (x.2)) (fun x => J (x.1) (x.2)) (fun x => μ (x.1) (x.2)) (x0, x1) h0 hJ (fun x hx => V.mono (round (x.1) (x.2) hx) (fun e s hq => by
    cases e with
    | normal =>
      obtain ⟨b0, b1, h1, h2, h3⟩ := hq
      exact ⟨(b0, b1), h1, h2, h3⟩
    | _ => exact hq)) (fun x => hA (x.1) (x.2))
theorem V_loop3 {α0 α1 α2 : Type} (I : α0 → α1 → α2 → St) (J : α0 → α1 → α2 → Prop) (μ : α0 → α1 → α2 → Nat) (x0 : α0) (x1 : α1) (x2 : α2) (h0 : Le σ (I x0 x1 x2)) (hJ : J x0 x1 x2)
    (round : ∀ a0 a1 a2, J a0 a1 a2 → V P A c (I a0 a1 a2) (thenS (fun s => ∃ b0 b1 b2, J b0 b1 b2 ∧ μ b0 b1 b2 < μ a0 a1 a2 ∧ Le s (I b0 b1 b2)) Q)) (hA : ∀ a0 a1 a2, A.L0.length ≤ (I a0 a1 a2).L.length := by intros; rw [BaseN.h (A := A)]; exact Nat.le_of_ble_eq_true rfl) : V P A (.loop c) σ Q :=
  V_loop (α := α0 × α1 × α2) (fun x => I (x.1) (x.2.1) (x.2.2)) (fun x => J (x.1) (x.2.1) (x.2.2)) (fun x => μ (x.1) (x.2.1) (x.2.2)) (x0, x1, x2) h0 hJ (fun x hx => V.mono (round (x.1) (x.2.1) (x.2.2) hx) (fun e s hq => by
    cases e with
    | normal =>
      obtain ⟨b0, b1, b2, h1, h2, h3⟩ := hq
      exact ⟨(b0, b1, b2), h1, h2, h3⟩
    | _ => exact hq)) (fun x => hA (x.1) (x.2.1) (x.2.2))
theorem V_loop4 {α0 α1 α2 α3 : Type} (I : α0 → α1 → α2 → α3 → St) (J : α0 → α1 → α2 → α3 → Prop) (μ : α0 → α1 → α2 → α3 → Nat) (x0 : α0) (x1 : α1) (x2 : α2) (x3 : α3) (h0 : Le σ (I x0 x1 x2 x3)) (hJ : J x0 x1 x2 x3)
    (round : ∀ a0 a1 a2 a3, J a0 a1 a2 a3 → V P A c (I a0 a1 a2 a3) (thenS (fun s => ∃ b0 b1 b2 b3, J b0 b1 b2 b3 ∧ μ b0 b1 b2 b3 < μ a0 a1 a2 a3 ∧ Le s (I b0 b1 b2 b3)) Q)) (hA : ∀ a0 a1 a2 a3, A.L0.length ≤ (I a0 a1 a2 a3).L.length := by intros; rw [BaseN.h (A := A)]; exact Nat.le_of_ble_eq_true rfl) : V P A (.loop c) σ Q :=
  V_loop (α := α0 × α1 × α2 × α3) (fun x => I (x.1) (x.2.1) (x.2.2.1) (x.2.2.2)) (fun x => J (x.1) (x.2.1) (x.2.2.1) (x.2.2.2)) (fun x => μ (x.1) (x.2.1) (x.2.2.1) (x.2.2.2)) (x0, x1, x2, x3) h0 hJ (fun x hx => V.mono (round (x.1) (x.2.1) (x.2.2.1) (x.2.2.2) hx) (fun e s hq => by
    cases e with
    | normal =>
      obtain ⟨b0, b1, b2, b3, h1, h2, h3⟩ := hq
      exact ⟨(b0, b1, b2, b3), h1, h2, h3⟩
    | _ => exact hq)) (fun x => hA (x.1) (x.2.1) (x.2.2.1) (x.2.2.2))
theorem V_loop5 {α0 α1 α2 α3 α4 : Type} (I : α0 → α1 → α2 → α3 → α4 → St) (J : α0 → α1 → α2 → α3 → α4 → Prop) (μ : α0 → α1 → α2 → α3 → α4 → Nat) (x0 : α0) (x1 : α1) (x2 : α2) (x3 : α3) (x4 : α4) (h0 : Le σ (I x0 x1 x2 x3 x4)) (hJ : J x0 x1 x2 x3 x4)
    (round : ∀ a0 a1 a2 a3 a4, J a0 a1 a2 a3 a4 → V P A c (I a0 a1 a2 a3 a4) (thenS (fun s => ∃ b0 b1 b2 b3 b4, J b0 b1 b2 b3 b4 ∧ μ b0 b1 b2 b3 b4 < μ a0 a1 a2 a3 a4 ∧ Le s (I b0 b1 b2 b3 b4)) Q)) (hA : ∀ a0 a1 a2 a3 a4, A.L0.length ≤ (I a0 a1 a2 a3 a4).L.length := by intros; rw [BaseN.h (A := A)]; exact Nat.le_of_ble_eq_true rfl) : V P A (.loop c) σ Q :=
  V_loop (α := α0 × α1 × α2 × α3 × α4) (fun x => I (x.1) (x.2.1) (x.2.2.1) (x.2.2.2.1) (x.2.2.2.2)) (fun x => J (x.1) (x.2.1) (x.2.2.1) (x.2.2.2.1) (x.2.2.2.2)) (fun x => μ (x.1) (x.2.1) (x.2.2.1) (x.2.2.2.1) (x.2.2.2.2)) (x0, x1, x2, x3, x4) h0 hJ (fun x hx => V.mono (round (x.1) (x.2.1) (x.2.2.1) (x.2.2.2.1) (x.2.2.2.2) hx) (fun e s hq => by
    cases e with
    | normal =>
      obtain ⟨b0, b1, b2, b3, b4, h1, h2, h3⟩ := hq
      exact ⟨(b0, b1, b2, b3, b4), h1, h2, h3⟩
    | _ => exact hq)) (fun x => hA (x.1) (x.2.1) (x.2.2.1) (x.2.2.2.1) (x.2.2.2.2))
end
end Go.Eng
set_option linter.unusedVariables false
set_option linter.unusedSimpArgs false
namespace Go.Eng
open Go Go.RowKit
section
variable {P : Program} {A : Amb} {ops : Array Oper} {K : St → Prop} {Q : Exit → St → Prop} {rest : List Oper} {σ : St} {fr : List (Nat × SV)} {L L1 L' : List LO} {N i t : Nat} {sv : SV} {o : Oper} {c : Code}
variable {ty T : TypeId} {pos : String} {af : Array Edge} {x y : Operand} {g : Option (Nat × Bool)} {dst : Option Nat} {op : Op}
/-! ### lengths -/
theorem QR_len {α : Type} {e : α → U} {es : List α → List U} {z z' : Nat} [E : Enc α e es z] {el : TypeId} [TE P T el] {T' : TypeId} {l : List α} (hx : σ.ev x = .d (.sl z' (es l)) := by rfl) : QR P σ ⟨dst, .call { callee := .builtin .len, args := #[x], argTypes := #[T] }, T', pos, af, g⟩ (.d (.i .i64 (l.length : Int))) :=
  fun A fr' L' he _ => by
    rw [← Enc.len (es := es) l]
    exact Q_len (by rw [he x (by simp [Op.operands, Call.operands])]; exact hx) TE.h
/-! ### guarded operations that are passed over -/
theorem VO_pa {j tj : Nat} {want x : Bool} {o' : Oper} (h : VO P A ops rest ⟨(t, .tup []) :: fr, L, N⟩ K) (hj : ops[j]? = some o' := by rfl) (hdst : o'.dst = some tj := by rfl) (htj : Nat.blt tj N = true := by rfl) (hb : look fr tj = .d (.b x) := by rfl) (hx : (x == want) = false := by rfl) (ht : Nat.blt t N = true := by rfl) :
    VO P A ops (⟨some t, op, ty, pos, af, some (j, want)⟩ :: rest) ⟨fr, L, N⟩ K := by
  intro R hR a w ⟨S, env, hH, hf, hN, hd⟩
  have h1 := h R hR (a.put (some t) undef) w (realz_put hf hN hd ht hH Carry.refl (by simp only [SVr]; exact ⟨[], rfl, by simp [SVrs]⟩))
  have h2 := hf tj
  rw [hb] at h2
  have h3 := SVr.bool.1 h2
  have ht' : tj < a.tmps.size := by rw [hN]; simpa [Nat.blt_eq] using htj
  have hy : yielded ops a.tmps j = some x := by
    simp only [yielded, hj, hdst, Option.bind_some]
    have : a.tmps[tj]? = some (.bool x) := by
      rw [Array.getD_eq_getD_getElem?, Array.getElem?_eq_getElem ht'] at h3
      rw [Array.getElem?_eq_getElem ht']
      have h3' : a.tmps[tj] = .bool x := by simpa using h3
      rw [h3']
    rw [this]
  unfold wpList
  simp only [Region.wanted, hy]
  have hne : (some x == some want) = false := by simpa using hx
  rw [hne]
  exact h1
theorem VO_pu {j tj : Nat} {want : Bool} {o' : Oper} (h : VO P A ops rest ⟨(t, .tup []) :: fr, L, N⟩ K) (hj : ops[j]? = some o' := by rfl) (hdst : o'.dst = some tj := by rfl) (htj : Nat.blt tj N = true := by rfl) (hb : look fr tj = .tup [] := by rfl) (ht : Nat.blt t N = true := by rfl) :
    VO P A ops (⟨some t, op, ty, pos, af, some (j, want)⟩ :: rest) ⟨fr, L, N⟩ K := by
  intro R hR a w ⟨S, env, hH, hf, hN, hd⟩
  have h1 := h R hR (a.put (some t) undef) w (realz_put hf hN hd ht hH Carry.refl (by simp only [SVr]; exact ⟨[], rfl, by simp [SVrs]⟩))
  have h2 := hf tj
  rw [hb] at h2
  simp only [SVr] at h2
  obtain ⟨vs, h3, h4⟩ := h2
  have hvs : vs = [] := by cases vs with
    | nil => rfl
    | cons _ _ => simp [SVrs] at h4
  subst hvs
  have ht' : tj < a.tmps.size := by rw [hN]; simpa [Nat.blt_eq] using htj
  have hy : yielded ops a.tmps j = none := by
    simp only [yielded, hj, hdst, Option.bind_some]
    have : a.tmps[tj]? = some (.tuple #[]) := by
      rw [Array.getD_eq_getD_getElem?, Array.getElem?_eq_getElem ht'] at h3
      rw [Array.getElem?_eq_getElem ht']
      have h3' : a.tmps[tj] = .tuple #[] := by simpa using h3
      rw [h3']
    rw [this]
  unfold wpList
  simp only [Region.wanted, hy]
  have hne : ((none : Option Bool) == some want) = false := by rfl
  rw [hne]
  exact h1
/-! ### the call that hands over -/
def pickB (L : List LO) (ρ : Nat → Nat) : Nat → List LO → Prop
  | _, [] => True
  | m, o :: os => L[ρ m]? = some (o.ren ρ) ∧ pickB L ρ (m + 1) os
theorem pickB_get {L : List LO} {ρ : Nat → Nat} : ∀ {Lc : List LO} {n : Nat}, pickB L ρ n Lc → ∀ (m : Nat) (o : LO), Lc[m]? = some o → L[ρ (n + m)]? = some (o.ren ρ)
  | [], _, _, m, o, h => by simp at h
  | o0 :: os, n, hp, 0, o, h => by simp at h; subst h; exact hp.1
  | o0 :: os, n, hp, m + 1, o, h => by
    have := pickB_get hp.2 m o (by simpa using h)
    rwa [show n + 1 + m = n + (m + 1) by omega] at this
theorem VO_cG {f : Operand} {fi : Nat} {caps : List SV} {args : Array Operand} {at_ : Array TypeId} {cargs : List SV} {Lc : List LO} {Q : SV → List LO → Prop} (js : List Nat) (hspec : Spec P fi cargs Lc Q)
    (h : ∀ (sv : SV) (Lo : List LO), Q sv Lo → VO P A ops rest ⟨(t, sv.ren (rn js L.length)) :: fr, putA js (Lo.map (LO.ren (rn js L.length))) L, N⟩ K)
    (hf : (St.mk fr L N).ev f = .fn fi caps := by rfl) (hp : pickB L (rn js L.length) 0 Lc := by ((repeat (first | exact trivial | exact rfl | refine And.intro ?_ ?_)); first | done | fail))
    (hjs : (decide js.Nodup && (js.all fun j => Nat.blt j L.length) && js.length == Lc.length && LO.lts Lc.length Lc) = true := by rfl)
    (hargs : AGs L (rn js L.length) Lc.length (args.toList.map (St.mk fr L N).ev ++ caps) cargs := by ((repeat (first | exact trivial | exact .inl ⟨rfl, rfl⟩ | exact .inr ⟨_, rfl, by ((repeat (first | exact trivial | exact rfl | exact ⟨_, rfl⟩ | refine And.intro ?_ ?_)); first | done | fail)⟩ | refine And.intro ?_ ?_)); first | done | fail))
    (ht : Nat.blt t N = true := by rfl) :
    VO P A ops (⟨some t, .call { callee := .value f, args := args, argTypes := at_ }, ty, pos, af, none⟩ :: rest) ⟨fr, L, N⟩ K := by
  have hjs' := hjs
  simp only [Bool.and_eq_true, decide_eq_true_eq, List.all_eq_true, Nat.blt_eq, beq_iff_eq] at hjs'
  obtain ⟨⟨⟨hnd, hlt⟩, hn⟩, hlts⟩ := hjs'
  refine VO_callG js hf hspec ⟨fun m o ho => by simpa using pickB_get hp m o ho, fun m m' _ _ he => rn_inj hlt hnd he, hlts⟩ ?_ hargs ht h
  simp only [Bool.and_eq_true, decide_eq_true_eq, List.all_eq_true, Nat.blt_eq, beq_iff_eq]
  exact ⟨⟨hnd, hlt⟩, hn⟩
theorem N_rG {fn : Func} {Q : SV → List LO → Prop} {n : Nat} (svs : List SV) (Lo : List LO) (hq : Q (mkG svs) Lo) (hL : ∃ L2, σ.L = Lo ++ L2 := by exact ⟨_, rfl⟩) (hl : (LO.lts Lo.length Lo && SV.lts Lo.length svs && Nat.ble n Lo.length) = true := by rfl)
    (hr : ResG P σ fn.results.toList svs := by ((repeat (first | exact .nil | refine .data rfl rfl ?_ | refine .same rfl ?_ | refine .data (ResV_ag rfl rfl TI.h rfl rfl) (by ((repeat (first | exact trivial | exact rfl | exact ⟨_, rfl⟩ | refine And.intro ?_ ?_)); first | done | fail)) ?_)); first | done | fail)) : PostG P fn Q n .normal σ := by
  obtain ⟨L2, hL⟩ := hL
  exact ⟨trivial, svs, Lo, L2, hL, hl, hq, hr⟩
theorem R_rG {fn : Func} {Q : SV → List LO → Prop} {n : Nat} (svs : List SV) (Lo : List LO) (hq : Q (mkG svs) Lo) (hL : ∃ L2, σ.L = Lo ++ L2 := by exact ⟨_, rfl⟩) (hl : (LO.lts Lo.length Lo && SV.lts Lo.length svs && Nat.ble n Lo.length) = true := by rfl)
    (hr : ResG P σ fn.results.toList svs := by ((repeat (first | exact .nil | refine .data rfl rfl ?_ | refine .same rfl ?_ | refine .data (ResV_ag rfl rfl TI.h rfl rfl) (by ((repeat (first | exact trivial | exact rfl | exact ⟨_, rfl⟩ | refine And.intro ?_ ?_)); first | done | fail)) ?_)); first | done | fail)) : PostG P fn Q n .ret σ := ⟨trivial, (N_rG svs Lo hq hL hl hr).2⟩
theorem R_rP {fn : Func} {us : List U} (h : ResPs P σ fn.results.toList us := by ((repeat (first | exact trivial | exact ⟨_, rfl, rfl⟩ | exact ⟨_, rfl, ⟨_, rfl⟩⟩ | exact ⟨_, ResV_ag rfl rfl TI.h rfl rfl, (by (repeat (first | exact trivial | exact rfl | exact ⟨_, rfl⟩ | refine And.intro ?_ ?_)); first | done | fail)⟩ | exact ⟨_, ResV_one rfl rfl TI.h rfl, rfl⟩ | refine And.intro ?_ ?_)); first | done | fail)) : PostP P fn us .ret σ := ⟨trivial, h⟩
theorem R_rO {fn : Func} {es : List TypeId} {us : List U} {ps : List (Option Nat)} (h : ROs P σ fn.results.toList us es ps := by ((repeat (first | exact rfl | exact ResV_ag rfl rfl TI.h rfl rfl | exact ResV_one rfl rfl TI.h rfl | constructor)); first | done | fail)) (hn : decide ((ps.filterMap id).Nodup) = true := by rfl) : PostO P fn es us .ret σ := ⟨trivial, ps, h, hn⟩
/-! ### a call of a function that was handed in -/
theorem QR_callf {f : Operand} {fi : Nat} {caps : List SV} {args : Array Operand} {at_ : Array TypeId} {dargs : List SV} {us : List U} (hspec : SpecP P fi (dargs ++ caps) us) (hc : SV.lts 0 caps = true) (hf : σ.ev f = .fn fi caps := by rfl)
    (hargs : ∀ L', VAs L' (args.toList.map σ.ev) dargs := by (intro L'; (repeat (first | exact trivial | exact rfl | exact ⟨_, rfl⟩ | refine And.intro ?_ ?_)); first | done | fail)) :
    QR P σ ⟨dst, .call { callee := .value f, args := args, argTypes := at_ }, ty, pos, af, g⟩ (mkR us) :=
  fun A fr' L' he _ => Q_callc (by rw [he f (by simp [Op.operands, Call.operands])]; exact hf) hspec (by
    have : args.toList.map (St.ev ⟨fr', L', σ.N⟩) = args.toList.map σ.ev := List.map_congr_left fun x hx => he x (by simp only [Op.operands, Call.operands]; simp; exact .inr (by simpa using hx))
    rw [this]
    exact hargs L') hc
/-! ### arrays -/
theorem VO_l0 {e z bs : Nat} {gg : Bool} [TE P T e] [TI P e gg z bs] (h : VO P A ops rest ⟨(t, .sl i 0) :: fr, L', N⟩ K) (ht : Nat.blt t N = true := by rfl) (hL' : Sn (.own e z 0 []) L i L' := by repeat constructor) :
    VO P A ops (⟨some t, .buildSlice T 0 #[], ty, pos, af, none⟩ :: rest) ⟨fr, L, N⟩ K := VO_slit0 TE.h TI.h ht hL' h
/-- A literal of one element, of the call's own (its parts may be shared data). -/
theorem VO_la1 {e z bs : Nat} {gg : Bool} [TE P T e] [TI P e gg z bs] {zs : List Value} [TZ P e zs] {u : U} (h : VO P A ops rest ⟨(t, .sl i 0) :: fr, L', N⟩ K) (hy : VD L ((St.mk fr L N).ev x) u := by ((repeat (first | exact trivial | exact rfl | exact ⟨_, rfl⟩ | refine And.intro ?_ ?_)); first | done | fail))
    (hz : (Nat.blt 0 z && Nat.blt z 16777216 && zs.length == z) = true := by rfl) (hu : u.sz = z := by rfl) (ht : Nat.blt t N = true := by rfl) (hL' : Sn (.arr e z 0 [u]) L i L' := by repeat constructor) :
    VO P A ops (⟨some t, .buildSlice T 1 #[(0, x)], ty, pos, af, none⟩ :: rest) ⟨fr, L, N⟩ K := by
  obtain ⟨hi, hL''⟩ := hL'.spec
  subst hi; subst hL''
  have hT : tyE P T = some e := TE.h
  have he : tyI P e = some (gg, z, bs) := TI.h
  have hZ : tyZ P e = some zs := TZ.h
  simp only [Bool.and_eq_true, Nat.blt_eq, beq_iff_eq] at hz
  refine VO_step rfl (fun S env a w hH hf hN hd => ?_) h
  have hr := VD.r hH hy (Realz.ev hf hH x)
  simp only [SVr] at hr
  obtain ⟨cs, c1, c2⟩ := hr
  have hcells : (a.eval x).cells.toList = cs := by rw [c1]; exact val_cells c2
  have hcl := Rd.length _ _ c2
  rw [hu] at hcl
  obtain ⟨zv, hrz, hzc⟩ := run_zero hZ w
  have hsz : (a.eval x).cells.size = z := by rw [← hcl, ← hcells]; simp
  have hold : ∀ b, b < w.heap.size → (w.alloc (.cells (a.eval x).cells e)).heap[b]? = w.heap[b]? := fun b hb => heap_alloc_old w _ hb
  obtain ⟨hH', C⟩ := hH.new (w' := w.alloc (.cells (a.eval x).cells e)) (.arr e z 0 [u]) (.slice (some ⟨w.heap.size, 0, none⟩) 1 1) (by simp) hold rfl rfl rfl
    (fun b hb => by simp [LO.ft, blk] at hb; subst hb; simp)
    (fun C => ⟨by simp [big_eq], by simpa using hu, cs, ⟨by simp [hcl], .inr ⟨w.heap.size, 1, _, rfl, Nat.zero_le _, heap_alloc_new w _, Nat.le_refl _, by simp [maxLen], by rw [hsz]; simp, by rw [hcells]; rw [List.take_of_length_le (by simp [hcl])]⟩⟩, by
      have := c2.mono C.hS C.hw
      simp only [Rds]
      exact ⟨cs, [], by simp, this, rfl⟩⟩)
  refine ⟨.value (.slice (some ⟨w.heap.size, 0, none⟩) 1 1), _, ?_, .inl ⟨_, rfl, realz_put hf hN hd ht hH' C ?_⟩⟩
  · have hzs : zv.cells.size = z := by rw [← hz.2, ← hzc]; simp
    have hfill : Instr.fill (fun i => some (i * z, z)) ((Array.range (1 * z)).map (zv.cells[· % zv.cells.size]!)) [(0, a.eval x)] = some (a.eval x).cells := by
      rw [run_fill (off := 0) (n := z) (by simp) hsz (by simp)]
      simp only [Instr.fill, Option.some.injEq, List.take_zero, List.nil_append, Nat.zero_add]
      apply Array.ext'
      simp
    have h1 : ¬ z > 2 ^ 24 := by omega
    have h2 : ¬ z = 0 := by omega
    simp only [Nat.one_mul] at hfill
    simp [execOp, Instr.buildSlice, run_underlying (tyE_und hT), run_sizeOf he, hrz, h1, h2, newRow]
    simp only [gt_iff_lt] at h1
    simp [hfill]
  · simp only [SVr]
    exact ⟨.slice (some ⟨w.heap.size, 0, none⟩) 1 1, .arr e z 0 [u], by rw [← hH.len]; simp, by simp, Nat.le_refl _, rfl, fun _ => rfl⟩
/-- Append to an owned array. -/
theorem VO_ap {α : Type} {en : α → U} {es : List α → List U} {z : Nat} [E : Enc α en es z] {l r : List α} (hg : l.length + r.length ≤ 4294967296) {e bs ver : Nat} {gg : Bool} [TE P T e] [TI P e gg z bs] {zs : List Value} [TZ P e zs] {js : List Nat} {T' : TypeId}
    (h : VO P A ops rest ⟨(t, .sl i (ver + 1)) :: fr, L', N⟩ K) (hx : (St.mk fr L N).ev x = .sl i ver := by rfl) (hL : L[i]? = some (.own e z ver (es l)) := by rfl) (hs : SrcO L z ((St.mk fr L N).ev y) (es r) js := by first | exact .own rfl | exact .nil | exact .data (Enc.all _) (eStrs_noSl _) | exact .data (Enc.all _) (eInts_noSl _))
    (hjs : (decide js.Nodup && !js.contains i) = true := by decide) (hz : (Nat.blt 0 z && zs.length == z) = true := by rfl) (hb : Nat.ble bs 32768 = true := by rfl)
    (ht : Nat.blt t N = true := by rfl) (hk1 : KR js L L1 := by repeat constructor) (hL' : St1 (.own e z (ver + 1) (es (l ++ r))) i L1 L' := by repeat constructor) :
    VO P A ops (⟨some t, .call { callee := .builtin .append, args := #[x, y], argTypes := #[T, T] }, T', pos, af, none⟩ :: rest) ⟨fr, L, N⟩ K := by
  have h1 : (es l).length = l.length := Enc.len l
  have h2 : (es r).length = r.length := Enc.len r
  have hb := Nat.le_of_ble_eq_true hb
  rw [Enc.app (es := es)] at hL'
  refine VR_append hx hL hs hjs TE.h TI.h TZ.h hz (by rw [big_eq]; omega) ?_ ht hk1 hL' h
  rw [h1, h2]
  exact Nat.le_trans (Nat.mul_le_mul hg hb) (by decide)
/-! ### an owned array is let go: from here on it is data -/
theorem Realz.freezeO {a : Act} {w : World} {i e z ver : Nat} {es : List U} (hL : σ.L[i]? = some (.own e z ver es)) (h : Realz A σ a w) : Realz A ⟨σ.fr, σ.L.set i (.frz e z ver es), σ.N⟩ a w := by
  obtain ⟨S, env, hH, hf, hN, hd⟩ := h
  have hi := (List.getElem?_eq_some_iff.1 hL).1
  have hie : i < env.length := by rw [hH.len]; exact hi
  obtain ⟨hv, he⟩ : ∃ hv, env[i]? = some hv := ⟨_, List.getElem?_eq_getElem hie⟩
  have hob := hH.objs i _ hv hL he
  let S' : Nat → Prop := fun b => S b ∨ b ∈ (U.sl z es).fp w [hv]
  have hset : ∀ (j : Nat) (o' : LO), (σ.L.set i (.frz e z ver es))[j]? = some o' → (j = i ∧ o' = .frz e z ver es) ∨ (j ≠ i ∧ σ.L[j]? = some o') := by
    intro j o' hj
    by_cases hij : i = j
    · subst hij
      rw [List.getElem?_set_self hi] at hj
      exact .inl ⟨rfl, (Option.some.inj hj).symm⟩
    · rw [List.getElem?_set_ne hij] at hj
      exact .inr ⟨fun e => hij e.symm, hj⟩
  have C : Carry S σ.L env w S' (σ.L.set i (.frz e z ver es)) env w := by
    refine ⟨fun b hb _ => .inl hb, fun _ _ _ => rfl, fun _ _ h => h, fun j hv' o' h1 h2 => ?_⟩
    by_cases hij : i = j
    · subst hij
      rw [hL] at h2
      obtain rfl := Option.some.inj h2
      exact ⟨hv', .frz e z ver es, h1, by rw [List.getElem?_set_self hi], Nat.le_refl _, fun _ => rfl⟩
    · exact ⟨hv', o', h1, by rw [List.getElem?_set_ne hij]; exact h2, Nat.le_refl _, fun _ => rfl⟩
  refine ⟨S', env, ⟨by simp [hH.len], ?_, ?_, ?_, ?_, ?_, hH.frame, hH.size, hH.os, hH.tape, hH.output, hH.base.carry C hH.len (by simp), hH.glob⟩, fun t => SVr.carry C _ _ (hf t), hN, hd⟩
  · intro j o' hv' h1 h2
    rcases hset j o' h1 with ⟨rfl, rfl⟩ | ⟨hj, h3⟩
    · rw [he] at h2
      obtain rfl := Option.some.inj h2
      exact ⟨[hv], rfl, Tr.rd _ _ (own_tr hob) (fun b hb => .inr hb)⟩
    · exact ObjR.carry C (fun _ _ _ => rfl) (hH.objs j o' hv' h3 h2)
  · intro j o' hv' b h1 hl h2 hb
    rcases hset j o' h1 with ⟨rfl, rfl⟩ | ⟨hj, h3⟩
    · cases hl
    · have := hH.excl j o' hv' b h3 hl h2 hb
      refine ⟨fun hs => hs.elim this.1 (fun hs => hj (hH.dist j i o' _ hv' hv b h3 hL hl rfl h2 he hb (show (LO.own e z ver es).ft w hv b from hs))), this.2⟩
  · intro j j' o1 o1' hv1 hv1' k h1 h2 hl1 hl2 e1 e2 b1 b2
    rcases hset j o1 h1 with ⟨rfl, rfl⟩ | ⟨hj, h3⟩
    · cases hl1
    · rcases hset j' o1' h2 with ⟨rfl, rfl⟩ | ⟨hj', h3'⟩
      · cases hl2
      · exact hH.dist j j' o1 o1' hv1 hv1' k h3 h3' hl1 hl2 e1 e2 b1 b2
  · intro b hb
    rcases hb with hb | hb
    · exact hH.sS b hb
    · exact (hH.excl i _ hv b hL rfl he hb).2.2
  · intro b hb
    rcases hb with hb | hb
    · exact hH.sA b hb
    · exact .inr (hH.excl i _ hv b hL rfl he hb).2.1
theorem V_freezeO (i : Nat) {e z ver : Nat} {es : List U} (hL : L[i]? = some (.own e z ver es)) (hL' : L.set i (.frz e z ver es) = L') (h : V P A c ⟨fr, L', N⟩ Q) : V P A c ⟨fr, L, N⟩ Q := by
  subst hL'
  exact fun a w hr => h a w (hr.freezeO (σ := ⟨fr, L, N⟩) hL)
theorem VO_freezeO (i : Nat) {e z ver : Nat} {es : List U} (hL : L[i]? = some (.own e z ver es)) (hL' : L.set i (.frz e z ver es) = L') (h : VO P A ops rest ⟨fr, L', N⟩ K) : VO P A ops rest ⟨fr, L, N⟩ K := by
  subst hL'
  exact fun R hR a w hr => h R hR a w (hr.freezeO (σ := ⟨fr, L, N⟩) hL)
/-! ### how long a list that is held can be -/
theorem V_bd {α : Type} {e : α → U} {es : List α → List U} {z : Nat} [E : Enc α e es z] {l : List α} {z' : Nat} (j : Nat) (h : l.length ≤ 140737488355328 → V P A c ⟨fr, L, N⟩ Q) (hb : look fr j = .d (.sl z' (es l)) := by rfl) : V P A c ⟨fr, L, N⟩ Q := by
  intro a w hr
  refine h ?_ a w hr
  obtain ⟨S, env, hH, hf, hN, hd⟩ := hr
  have := hf j
  simp only at this
  rw [hb] at this
  have := (SVr.slice.1 this).1
  rwa [Enc.len, big_eq] at this
theorem V_bdc {α : Type} {e : α → U} {es : List α → List U} {z : Nat} [E : Enc α e es z] {l : List α} {z' : Nat} {cs : List SV} (i j : Nat) (h : l.length ≤ 140737488355328 → V P A c ⟨fr, L, N⟩ Q) (hL : L[i]? = some (.box cs) := by rfl) (hb : cs[j]? = some (.d (.sl z' (es l))) := by rfl) : V P A c ⟨fr, L, N⟩ Q := by
  intro a w hr
  refine h ?_ a w hr
  obtain ⟨S, env, hH, hf, hN, hd⟩ := hr
  obtain ⟨hv, he⟩ : ∃ hv, env[i]? = some hv := ⟨_, List.getElem?_eq_getElem (by rw [hH.len]; exact (List.getElem?_eq_some_iff.1 hL).1)⟩
  obtain ⟨b, vals, e', r1, r2, r3, r4⟩ := hH.objs i _ hv hL he
  obtain ⟨v, v1, v2⟩ := SVrs.get r3 j _ hb
  have := (SVr.slice.1 v2).1
  rwa [Enc.len, big_eq] at this
end
/-- The like in a region that draws its order and holds more than quiet operations. -/
theorem goY {X Y : Prop} (hy : Y) (h : Y → X := by
    intro hy
    repeat (first | refine VY_r QR_len ?_ | refine VY_d rfl ?_ (by (repeat constructor); first | done | fail) | refine VY_h rfl (by repeat constructor) (by repeat (first | exact PfOk.nil | (apply PfOk.keep; focus ((repeat constructor); done)) | (apply PfOk.dep; focus kernel_rfl))) ?_)
    exact hy) : X := h hy
end Go.Eng
