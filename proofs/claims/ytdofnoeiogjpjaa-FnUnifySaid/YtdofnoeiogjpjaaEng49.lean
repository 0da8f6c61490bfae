/- The engine, part 49: what the library's contracts give; division of any integer; strings put together. -/
import Derived.Test.YtdofnoeiogjpjaaEng48
set_option linter.unusedVariables false
set_option linter.unusedSimpArgs false
namespace Go.Eng
open Go Go.RowKit
section
variable {P : Program} {A : Amb} {σ : St} {dst : Option Nat} {ty T T' : TypeId} {pos : String} {af : Array Edge} {g : Option (Nat × Bool)} {x y : Operand}
/-- A contract that leaves all that was there as it was, and gives a string. -/
theorem SpecP_str {f : Nat} {args : List SV} {l : List UInt8} (hc : CallOk P f) (hl : l.length ≤ big)
    (h : ∀ (S : Nat → Prop) (w : World) (vs : List Value), SVrs S [] [] w args vs → (∀ b, S b → b < w.heap.size) → Gok (fun _ => False) w → Calls P f vs.toArray w (fun e w' => e = .returned (.string ⟨l.toArray⟩) ∧ Below w.heap.size w w')) : SpecP P f args [.s l] := by
  refine ⟨hc, ?_⟩
  intro A S env w vs hw hS hA0 he hH hargs
  have henv : env = [] := List.eq_nil_of_length_eq_zero (by simpa using hH.len)
  subst henv
  refine (h S w vs hargs hH.sS (hH.gok fun b h => h.elim)).mono ?_
  rintro e w' ⟨rfl, hb⟩
  refine ⟨_, _, S, [], [], rfl, ⟨rfl, rfl⟩, ?_, SVr.str.2 ⟨hl, rfl⟩⟩
  refine ⟨rfl, fun i o hv h => by simp at h, fun i o hv b h => by simp at h, fun i j o o' hv hv' b h => by simp at h, fun b h => Nat.lt_of_lt_of_le (hH.sS b h) hb.size, hH.sA, fun k h1 h2 => ?_, Nat.le_trans hH.size hb.size, hb.os.trans hH.os, hb.tape.trans hH.tape, hb.output.trans hH.output, hH.base, hH.glob⟩
  have h3 := hH.frame k h1 h2
  subst hw
  exact (hb.block k h1).trans h3
/-- The same, where objects are handed over and lie as they lay. -/
theorem Spec_strL {f : Nat} {args : List SV} {L : List LO} {l : List UInt8} {Q : SV → List LO → Prop} (hc : CallOk P f) (hl : l.length ≤ big) (hQ : Q (.d (.s l)) L)
    (h : ∀ (A : Amb) (S : Nat → Prop) (env : List Value) (w : World) (vs : List Value), HeapR A S L env w → SVrs S L env w args vs → Calls P f vs.toArray w (fun e w' => e = .returned (.string ⟨l.toArray⟩) ∧ Below w.heap.size w w')) : Spec P f args L Q := by
  refine ⟨hc, ?_⟩
  intro A S env w vs hw hS hA0 he hH hargs
  refine (h A S env w vs hH hargs).mono ?_
  rintro e w' ⟨rfl, hb⟩
  have hC : HeapR ⟨w, S, fun _ => False, [], []⟩ S [] [] w' :=
    ⟨rfl, fun i o hv h => by simp at h, fun i o hv b h => by simp at h, fun i j o o' hv hv' b h => by simp at h, fun b h => Nat.lt_of_lt_of_le (hH.sS b h) hb.size, fun b h => .inl h, fun k h1 h2 => hb.block k h1, hb.size, hb.os, hb.tape, hb.output, Base.nil rfl, hH.gok (fun _ h => h.elim)⟩
  have := (hH.join hC (fun o h => by cases h)).1
  simp only [List.append_nil] at this
  exact ⟨_, _, S, L, env, rfl, hQ, this, SVr.str.2 ⟨hl, rfl⟩⟩
theorem Q_quoT {m n r : Int} (hr : IntKind.i64.wrap (m.tdiv n) = r) (hx : σ.ev x = .d (.i .i64 m) := by rfl) (hy : σ.ev y = .d (.i .i64 n) := by rfl) (hn : decide (0 < n) = true := by rfl) : Quiet P A σ ⟨dst, .binOp .quo T x y T', ty, pos, af, g⟩ (.d (.i .i64 r)) := Quiet.pure fun S env a w hH ho => by
  have h1 := ho x (by simp [Op.operands])
  have h2 := ho y (by simp [Op.operands])
  rw [hx, SVr.int] at h1
  rw [hy, SVr.int] at h2
  have h0 : ¬ n = 0 := by have := of_decide_eq_true hn; omega
  subst hr
  exact ⟨_, by simp [execOp, h1, h2, eqGuard, binOp, Op.intDiv, h0], SVr.int.2 rfl⟩
theorem Q_remT {m n : Int} (hx : σ.ev x = .d (.i .i64 m) := by rfl) (hy : σ.ev y = .d (.i .i64 n) := by rfl) (hn : decide (0 < n) = true := by rfl) : Quiet P A σ ⟨dst, .binOp .rem T x y T', ty, pos, af, g⟩ (.d (.i .i64 (m.tmod n))) := Quiet.pure fun S env a w hH ho => by
  have h1 := ho x (by simp [Op.operands])
  have h2 := ho y (by simp [Op.operands])
  rw [hx, SVr.int] at h1
  rw [hy, SVr.int] at h2
  have h0 : ¬ n = 0 := by have := of_decide_eq_true hn; omega
  exact ⟨_, by simp [execOp, h1, h2, eqGuard, binOp, Op.intDiv, h0], SVr.int.2 rfl⟩
/-- Two strings put together. -/
theorem QR_cat {a b : List UInt8} (hl : a.length + b.length ≤ 4294967296) (hx : σ.ev x = .d (.s a) := by rfl) (hy : σ.ev y = .d (.s b) := by rfl) : QR P σ ⟨dst, .binOp .add T x y T', ty, pos, af, g⟩ (.d (.s (a ++ b))) :=
  fun A fr' L' he _ => Q_adds (by rw [he x (by simp [Op.operands])]; exact hx) (by rw [he y (by simp [Op.operands])]; exact hy) (by rw [big_eq]; omega)
end
end Go.Eng
