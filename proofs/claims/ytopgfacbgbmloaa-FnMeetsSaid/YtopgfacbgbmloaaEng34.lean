/- The engine, part 34: rules in a compact form, for walks written by program. -/
import Derived.Test.YtopgfacbgbmloaaEng33
import Derived.KernelRfl
set_option linter.unusedVariables false
set_option linter.unusedSimpArgs false
namespace Go.Eng
open Go Go.RowKit

class Mix (P : Program) : Prop where
  h : P.follows .mixedOrders = true
theorem V_seqseq {P : Program} {A : Amb} {σ : St} {Q : Exit → St → Prop} {x y z : Code} (h : V P A (.seq x y) σ (thenS (fun s => V P A z s Q) Q)) : V P A (.seq (.seq x y) z) σ Q := V_seq h
/-! ### models -/
def cnd {α : Type} (c : Bool) (x y : α) : α := match c with
  | true => x
  | false => y
def bnd {α β : Type} (o : Option α) (k : α → Option β) : Option β := match o with
  | some x => k x
  | none => none
def lt_ {α β : Type} (x : α) (k : α → β) : β := k x
def gd {α : Type} (c : Prop) [Decidable c] (k : Option α) : Option α := if c then k else none
theorem cnd_t {α : Type} {c : Bool} {x y r : α} (hc : c = true) (h : cnd c x y = r) : x = r := by subst hc; exact h
theorem cnd_f {α : Type} {c : Bool} {x y r : α} (hc : c = false) (h : cnd c x y = r) : y = r := by subst hc; exact h
theorem bnd_s {α β : Type} {o : Option α} {k : α → Option β} {r : β} (h : bnd o k = some r) : ∃ x, o = some x ∧ k x = some r := by
  cases o with
  | none => cases h
  | some x => exact ⟨x, rfl, h⟩
theorem bnd_eq {α β : Type} {o : Option α} {k : α → Option β} {x : α} (h : o = some x) : bnd o k = k x := by subst h; rfl
theorem lt_s {α β : Type} {v x : α} {k : α → β} {r : β} (hx : v = x) (h : lt_ v k = r) : k x = r := by subst hx; exact h
theorem gd_s {α : Type} {c : Prop} [Decidable c] {k : Option α} {r : α} (h : gd c k = some r) : c ∧ k = some r := by
  unfold gd at h
  split at h
  · exact ⟨by assumption, h⟩
  · cases h
theorem gd_eq {α : Type} {c : Prop} [Decidable c] {k : Option α} (hc : c) : gd c k = k := by unfold gd; rw [if_pos hc]
theorem cnd_true {α : Type} {x y : α} : cnd true x y = x := rfl
theorem cnd_false {α : Type} {x y : α} : cnd false x y = y := rfl
theorem cnd_ite {α : Type} {c : Bool} {x y : α} : cnd c x y = if c = true then x else y := by cases c <;> rfl
/-- An element by a number that may be anything. -/
def at? {α : Type} (l : List α) (i : Int) : Option α := if 0 ≤ i then l[i.toNat]? else none
theorem at_s {α : Type} {l : List α} {i : Int} {x : α} (h : at? l i = some x) : 0 ≤ i ∧ l[i.toNat]? = some x := by
  unfold at? at h
  split at h
  · exact ⟨by assumption, h⟩
  · cases h
theorem at_nat {α : Type} (l : List α) (k : Nat) : at? l (k : Int) = l[k]? := by unfold at?; rw [if_pos (Int.natCast_nonneg k)]; rfl
theorem drop_at {α : Type} {l : List α} {k : Nat} (h : k < l.length) : ∃ x, l[k]? = some x ∧ l.drop k = x :: l.drop (k + 1) :=
  ⟨l[k], List.getElem?_eq_getElem h, List.drop_eq_getElem_cons h⟩
theorem drop_end {α : Type} {l : List α} {k : Nat} (h : l.length ≤ k) : l.drop k = [] := List.drop_eq_nil_of_le h

section
variable {P : Program} {A : Amb} {ops : Array Oper} {K : St → Prop} {Q : Exit → St → Prop} {rest : List Oper} {σ : St} {fr : List (Nat × SV)} {L L' : List LO} {N i t : Nat} {sv : SV} {o : Oper}
variable {ty T : TypeId} {pos : String} {af : Array Edge} {x y : Operand} {g : Option (Nat × Bool)} {dst : Option Nat} {op : Op}
/-! ### quiet operations that look at their operands alone -/
def QR (P : Program) (σ : St) (o : Oper) (sv : SV) : Prop := ∀ A fr' L', (∀ x ∈ o.op.operands.toList, St.ev ⟨fr', L', σ.N⟩ x = σ.ev x) → Keep σ.L L' → Quiet P A ⟨fr', L', σ.N⟩ o sv
theorem QR.q (h : QR P σ o sv) : Quiet P A σ o sv := h A σ.fr σ.L (fun _ _ => rfl) (Keep.refl _)
theorem VO_r (hq : QR P ⟨fr, L, N⟩ ⟨some t, op, ty, pos, af, none⟩ sv) (h : VO P A ops rest ⟨(t, sv) :: fr, L, N⟩ K) (ht : Nat.blt t N = true := by rfl) : VO P A ops (⟨some t, op, ty, pos, af, none⟩ :: rest) ⟨fr, L, N⟩ K := VO_q hq.q ht h
theorem VQ_r (hq : QR P ⟨fr, L, N⟩ ⟨some t, op, ty, pos, af, none⟩ sv) (h : VQ P A ops rest ⟨(t, sv) :: fr, L, N⟩ K) (ht : Nat.blt t N = true := by rfl) : VQ P A ops (⟨some t, op, ty, pos, af, none⟩ :: rest) ⟨fr, L, N⟩ K := VQ_q hq.q ht h
theorem VY_r {r : List (Nat × Bool)} {pf : PF} (hq : QR P ⟨fr, L, N⟩ ⟨some t, op, ty, pos, af, none⟩ sv) (hv : VY P A ops K r ((i, L) :: pf) ⟨(t, sv) :: fr, L, N⟩) (hi : ops[i]? = some ⟨some t, op, ty, pos, af, none⟩ := by rfl) (ht : Nat.blt t N = true := by rfl) : VY P A ops K ((i, true) :: r) pf ⟨fr, L, N⟩ :=
  VY_qr hi rfl rfl (fun fr' L' he hk => hq A fr' L' he hk) ht hv
theorem VO_k (hq : Quiet P A ⟨fr, L, N⟩ ⟨some t, op, ty, pos, af, none⟩ sv) (h : VO P A ops rest ⟨(t, sv) :: fr, L, N⟩ K) (ht : Nat.blt t N = true := by rfl) : VO P A ops (⟨some t, op, ty, pos, af, none⟩ :: rest) ⟨fr, L, N⟩ K := VO_q hq ht h
theorem VQ_k (hq : Quiet P A ⟨fr, L, N⟩ ⟨some t, op, ty, pos, af, none⟩ sv) (h : VQ P A ops rest ⟨(t, sv) :: fr, L, N⟩ K) (ht : Nat.blt t N = true := by rfl) : VQ P A ops (⟨some t, op, ty, pos, af, none⟩ :: rest) ⟨fr, L, N⟩ K := VQ_q hq ht h
/-- A guarded operation that runs, laid bare. -/
theorem VO_b {j tj : Nat} {want : Bool} {o' : Oper} (h : VO P A ops (⟨dst, op, ty, pos, af, none⟩ :: rest) ⟨fr, L, N⟩ K) (hj : ops[j]? = some o' := by rfl) (hdst : o'.dst = some tj := by rfl) (htj : Nat.blt tj N = true := by rfl) (hb : look fr tj = .d (.b want) := by rfl) :
    VO P A ops (⟨dst, op, ty, pos, af, some (j, want)⟩ :: rest) ⟨fr, L, N⟩ K := VO_bare hj hdst htj hb h
section
variable {e z bs k : Nat} {gg : Bool} {kd : IntKind} {us : List U} {u : U}
theorem QR_ixn [TE P T e] [TI P e gg z bs] (k : Nat) (hu : us[k]? = some u) (hx : σ.ev x = .d (.sl z us) := by rfl) (hy : σ.ev y = .d (.i kd (k : Int)) := by rfl) : QR P σ ⟨dst, .indexAddr T x y, ty, pos, af, g⟩ (.dp u) :=
  fun A fr' L' he _ => Q_index (by rw [he x (by simp [Op.operands])]; exact hx) (by rw [he y (by simp [Op.operands])]; exact hy) TE.h TI.h (Int.natCast_nonneg k) hu
theorem QR_ixi [TE P T e] [TI P e gg z bs] {n : Int} (h0 : 0 ≤ n) (hu : us[n.toNat]? = some u) (hx : σ.ev x = .d (.sl z us) := by rfl) (hy : σ.ev y = .d (.i kd n) := by rfl) : QR P σ ⟨dst, .indexAddr T x y, ty, pos, af, g⟩ (.dp u) :=
  fun A fr' L' he _ => Q_index (by rw [he x (by simp [Op.operands])]; exact hx) (by rw [he y (by simp [Op.operands])]; exact hy) TE.h TI.h h0 hu
end
/-- A byte of a string. -/
theorem Q_six {l : List UInt8} {b : UInt8} {kd : IntKind} {n : Int} (hT : P.underlying T = some .string) (h0 : 0 ≤ n) (hu : l[n.toNat]? = some b) (hx : σ.ev x = .d (.s l)) (hy : σ.ev y = .d (.i kd n)) :
    Quiet P A σ ⟨dst, .index T x y, ty, pos, af, g⟩ (.d (.i .u8 (b.toNat : Int))) := Quiet.pure fun S env a w hH ho => by
  have h1 := ho x (by simp [Op.operands])
  have h2 := ho y (by simp [Op.operands])
  rw [hx] at h1
  rw [hy] at h2
  obtain ⟨_, h1⟩ := SVr.str.1 h1
  have h2 := SVr.int.1 h2
  refine ⟨.int .u8 b.toNat, ?_, SVr.int.2 rfl⟩
  have hb : (if 0 ≤ n then (⟨l.toArray⟩ : ByteArray)[n.toNat]? else none) = some b := by
    rw [if_pos h0]
    have hlt := (List.getElem?_eq_some_iff.1 hu).1
    have hs : n.toNat < (⟨l.toArray⟩ : ByteArray).size := by simpa [ByteArray.size] using hlt
    rw [getElem?_pos (⟨l.toArray⟩ : ByteArray) n.toNat hs]
    congr 1
    have h3 : l[n.toNat] = b := by rw [List.getElem?_eq_getElem hlt] at hu; exact Option.some.inj hu
    rw [← h3]
    rfl
  simp [execOp, h1, h2, Instr.index, asIntOf, run_underlying hT, hb]
theorem QR_six [TS P T] {l : List UInt8} {b : UInt8} {kd : IntKind} {n : Int} (h0 : 0 ≤ n) (hu : l[n.toNat]? = some b) (hx : σ.ev x = .d (.s l) := by rfl) (hy : σ.ev y = .d (.i kd n) := by rfl) :
    QR P σ ⟨dst, .index T x y, ty, pos, af, g⟩ (.d (.i .u8 (b.toNat : Int))) :=
  fun A fr' L' he _ => Q_six TS.h h0 hu (by rw [he x (by simp [Op.operands])]; exact hx) (by rw [he y (by simp [Op.operands])]; exact hy)
theorem QR_sixn [TS P T] {l : List UInt8} {b : UInt8} {kd : IntKind} (k : Nat) (hu : l[k]? = some b) (hx : σ.ev x = .d (.s l) := by rfl) (hy : σ.ev y = .d (.i kd (k : Int)) := by rfl) :
    QR P σ ⟨dst, .index T x y, ty, pos, af, g⟩ (.d (.i .u8 (b.toNat : Int))) := QR_six (Int.natCast_nonneg k) hu hx hy
/-- Arithmetic that wraps. -/
theorem QR_ar {b : BinOp} {T' : TypeId} {k : IntKind} {m n r : Int} (h : arI b k m n = some r := by rfl) (hx : σ.ev x = .d (.i k m) := by rfl) (hy : σ.ev y = .d (.i k n) := by rfl) : QR P σ ⟨dst, .binOp b T x y T', ty, pos, af, g⟩ (.d (.i k r)) :=
  fun A fr' L' he _ => Q_ar (by rw [he x (by simp [Op.operands])]; exact hx) (by rw [he y (by simp [Op.operands])]; exact hy) h
/-- Counting on by one. -/
theorem QR_inc {T' : TypeId} (k : Nat) (hk : k < 9223372036854775807) (hx : σ.ev x = .d (.i .i64 (k : Int)) := by rfl) (hy : σ.ev y = .d (.i .i64 1) := by rfl) : QR P σ ⟨dst, .binOp .add T x y T', ty, pos, af, g⟩ (.d (.i .i64 ((k + 1 : Nat) : Int))) :=
  fun A fr' L' he _ => by
    have := Q_add (P := P) (A := A) (dst := dst) (ty := ty) (pos := pos) (af := af) (g := g) (T := T) (T' := T') (σ := ⟨fr', L', σ.N⟩) (m := (k : Int)) (n := 1) (by rw [he x (by simp [Op.operands])]; exact hx) (by rw [he y (by simp [Op.operands])]; exact hy) (by omega) (by omega)
    simpa using this
/-- A closure is made. -/
theorem QR_fn {f : Nat} {cs : Array Operand} {svs : List SV} (h : NfL σ cs.toList svs := by repeat constructor) : QR P σ ⟨dst, .makeFunc (.func f) #[] cs, ty, pos, af, g⟩ (.fn f svs) :=
  fun A fr' L' he _ => Q_mkfn (by
    have key : ∀ (l : List Operand) (svs : List SV), (∀ x ∈ l, St.ev ⟨fr', L', σ.N⟩ x = σ.ev x) → NfL σ l svs → NfL ⟨fr', L', σ.N⟩ l svs := by
      intro l svs hl h
      induction h with
      | nil => exact .nil
      | cons h1 h2 ih => exact .cons (by rw [hl _ (by simp)]; exact h1) (ih fun x hx => hl x (by simp [hx]))
    exact key _ _ (fun x hx => he x (by simpa [Op.operands] using hx)) h)
/-- A call of a pure function, its arguments plain data. -/
theorem QR_call {f : Operand} {fi : Nat} {caps : List SV} {args : Array Operand} {at_ : Array TypeId} {dargs : List SV} {us : List U}
    (hspec : SpecP P fi dargs us) (hf : σ.ev f = .fn fi caps := by rfl) (hargs : ∀ L', VAs L' (args.toList.map σ.ev ++ caps) dargs := by (intro L'; (repeat (first | exact trivial | exact rfl | exact ⟨_, rfl⟩ | exact (‹∀ n, SV.lts n _ = true› _) | refine And.intro ?_ ?_)); first | done | fail)) :
    QR P σ ⟨dst, .call { callee := .value f, args := args, argTypes := at_ }, ty, pos, af, g⟩ (mkR us) :=
  fun A fr' L' he _ => Q_call (by rw [he f (by simp [Op.operands, Call.operands])]; exact hf) hspec (by
    have : args.toList.map (St.ev ⟨fr', L', σ.N⟩) = args.toList.map σ.ev := List.map_congr_left fun x hx => he x (by simp only [Op.operands, Call.operands]; simp; exact .inr (by simpa using hx))
    rw [this]
    exact hargs L')
/-- The like, the arguments as this state has them. -/
theorem Q_cl {f : Operand} {fi : Nat} {caps : List SV} {args : Array Operand} {at_ : Array TypeId} {dargs : List SV} {us : List U}
    (hspec : SpecP P fi dargs us) (hf : σ.ev f = .fn fi caps := by rfl) (hargs : VAs σ.L (args.toList.map σ.ev ++ caps) dargs := by ((repeat (first | exact trivial | exact rfl | exact ⟨_, rfl⟩ | exact (‹∀ n, SV.lts n _ = true› _) | refine And.intro ?_ ?_)); first | done | fail)) :
    Quiet P A σ ⟨dst, .call { callee := .value f, args := args, argTypes := at_ }, ty, pos, af, g⟩ (mkR us) := Q_call hf hspec hargs
/-- Boxes lent to closures; a scalar comes back. -/
theorem Q_cb {f : Operand} {fi : Nat} {args : Array Operand} {at_ : Array TypeId} {dargs : List SV} {u : U}
    (hspec : SpecP P fi dargs [u]) (hu : u.scal = true := by rfl) (hf : σ.ev f = .fn fi [] := by rfl) (hargs : WCs σ.L (args.toList.map σ.ev) dargs := by ((repeat (first | exact trivial | exact rfl | exact ⟨_, rfl⟩ | refine And.intro ?_ ?_)); first | done | fail)) :
    Quiet P A σ ⟨dst, .call { callee := .value f, args := args, argTypes := at_ }, ty, pos, af, g⟩ (.d u) := Q_calll hf hspec hu hargs
/-- A slot that holds a bool: both ways. -/
theorem VO_case {c : Bool} (tj : Nat) (ht : c = true → VO P A ops rest ⟨(tj, .d (.b true)) :: fr, L, N⟩ K) (hf : c = false → VO P A ops rest ⟨(tj, .d (.b false)) :: fr, L, N⟩ K) (hb : look fr tj = .d (.b c) := by rfl) : VO P A ops rest ⟨fr, L, N⟩ K := by
  intro R hR a w hr
  have key : ∀ c', c = c' → Realz A ⟨(tj, .d (.b c')) :: fr, L, N⟩ a w := by
    intro c' hc
    obtain ⟨S, env, hH, hfr, hN, hd⟩ := hr
    refine ⟨S, env, hH, fun t => ?_, hN, hd⟩
    simp only [look]
    by_cases h : t = tj
    · subst h
      rw [if_pos rfl, ← hc, ← hb]
      exact hfr t
    · rw [if_neg h]
      exact hfr t
  cases hc : c with
  | true => exact ht hc R hR a w (key true hc)
  | false => exact hf hc R hR a w (key false hc)
/-- A region whose ways meet again. -/
theorem V_seq_join {id : Nat} {l : List Oper} {c : Code} (σJ : St) (h1 : VO P A l.toArray l σ (fun s => Le s σJ)) (h2 : V P A c σJ Q) (hA : A.L0.length ≤ σJ.L.length := by rw [BaseN.h (A := A)]; exact Nat.le_of_ble_eq_true rfl) : V P A (.seq (.region id l.toArray false) c) σ Q :=
  V_seq_region fun R hR a w hr => h1 R (fun σ' a' w' hle hr' => hR σJ a' w' h2 (hr'.le hle hA)) a w hr
theorem V_ct {c : Operand} {x y : Code} (h : V P A x σ Q) (hc : σ.ev c = .d (.b true) := by rfl) : V P A (.cond c x y) σ Q := V_cond hc (fun _ => h) (fun h => by cases h)
theorem V_cf {c : Operand} {x y : Code} (h : V P A y σ Q) (hc : σ.ev c = .d (.b false) := by rfl) : V P A (.cond c x y) σ Q := V_cond hc (fun h => by cases h) (fun _ => h)
theorem V_cb {c : Operand} {x y : Code} {t : Bool} (ht : t = true → V P A x σ Q) (hf : t = false → V P A y σ Q) (hc : σ.ev c = .d (.b t) := by rfl) : V P A (.cond c x y) σ Q := V_cond hc ht hf
/-- The end of a pure function. -/
theorem V_rP {fn : Func} {us : List U} (h : ResPs P σ fn.results.toList us := by ((repeat (first | exact trivial | exact ⟨_, rfl, rfl⟩ | exact ⟨_, ResV_ag rfl rfl TI.h rfl rfl, (by (repeat (first | exact trivial | exact rfl | exact ⟨_, rfl⟩ | refine And.intro ?_ ?_)); first | done | fail)⟩ | exact ⟨_, ResV_one rfl rfl TI.h rfl, rfl⟩ | refine And.intro ?_ ?_)); first | done | fail)) : V P A .ret σ (PostP P fn us) := V_ret ⟨trivial, h⟩
end
end Go.Eng
