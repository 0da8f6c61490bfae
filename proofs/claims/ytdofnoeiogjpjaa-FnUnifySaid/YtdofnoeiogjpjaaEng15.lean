/- The engine, part 15: comparing structs of two strings and an int. -/
import Derived.Test.YtdofnoeiogjpjaaEng14
namespace Go.Eng
open Go Go.RowKit

def EqSSI (P : Program) (T : TypeId) : Prop := ∀ (w : World) (a b c d : List UInt8) (n m : Int),
  P.eqGuardType P.depth T = false ∧ (Op.equal T (.agg #[.string ⟨a.toArray⟩, .string ⟨b.toArray⟩, .int .i64 n]) (.agg #[.string ⟨c.toArray⟩, .string ⟨d.toArray⟩, .int .i64 m])).run P w = .ok (a == c && b == d && n == m) w
class TR (P : Program) (T : TypeId) : Prop where
  h : EqSSI P T
theorem bytes_beq (a c : List UInt8) : ((⟨a.toArray⟩ : ByteArray) == ⟨c.toArray⟩) = (a == c) := by
  show (a.toArray == c.toArray) = (a == c)
  simp
theorem SVr.ssi {S : Nat → Prop} {L : List LO} {env : List Value} {w : World} {a b : List UInt8} {n : Int} {v : Value} (h : SVr S L env w (.d (.st [.s a, .s b, .i .i64 n])) v) : v = .agg #[.string ⟨a.toArray⟩, .string ⟨b.toArray⟩, .int .i64 n] := by
  simp only [SVr, RdV, Rd, Rds] at h
  obtain ⟨cs, rfl, c1, c2, rfl, ⟨_, rfl⟩, c3, c4, rfl, ⟨_, rfl⟩, c5, c6, rfl, rfl, rfl⟩ := h
  rfl
section
variable {P : Program} {A : Amb} {σ : St} {K : St → Prop}
variable {dst : Option Nat} {ty : TypeId} {pos : String} {af : Array Edge} {g : Option (Nat × Bool)} {x y : Operand} {sv : SV}
theorem Q_nessi {T T' : TypeId} {a b c d : List UInt8} {n m : Int} (hE : EqSSI P T) (hx : σ.ev x = .d (.st [.s a, .s b, .i .i64 n])) (hy : σ.ev y = .d (.st [.s c, .s d, .i .i64 m])) :
    Quiet P A σ ⟨dst, .binOp .neq T x y T', ty, pos, af, g⟩ (.d (.b (!(a == c && b == d && n == m)))) := Quiet.pure fun S env ac w hH ho => by
  have h1 := ho x (by simp [Op.operands])
  have h2 := ho y (by simp [Op.operands])
  rw [hx] at h1
  rw [hy] at h2
  refine ⟨.bool (!(a == c && b == d && n == m)), ?_, SVr.bool.2 rfl⟩
  have := hE w a b c d n m
  simp [execOp, h1.ssi, h2.ssi, eqGuard, binOp, this.1, this.2]
end
end Go.Eng
