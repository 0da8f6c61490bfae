/- The engine, part 50: lists of bytes, operations on bits, the byte cursor of the draws. -/
import Derived.Test.YtdofnoeiogjpjaaEng49
set_option linter.unusedVariables false
set_option linter.unusedSimpArgs false
namespace Go.Eng
open Go Go.RowKit
def eByte (a : UInt8) : U := .i .u8 (a.toNat : Int)
def eBytes : List UInt8 → List U
  | [] => []
  | a :: l => .i .u8 (a.toNat : Int) :: eBytes l
instance : Enc UInt8 eByte eBytes 1 := ⟨fun l => by induction l with | nil => rfl | cons a l ih => simp [eBytes, ih, eByte], fun _ => rfl⟩
theorem gByte {l : List UInt8} {k : Nat} {x : UInt8} (h : l[k]? = some x) : (eBytes l)[k]? = some (.i .u8 (x.toNat : Int)) := Enc.get h
/-- The cursor: the code, where it stands, its hash. -/
structure Tl1Cur where
  b : List UInt8
  i : Int
  h : Int
def andI (m n : Int) : Int := IntKind.i64.wrap (BitVec.ofInt 64 m &&& BitVec.ofInt 64 n).toNat
def xorI (m n : Int) : Int := IntKind.i64.wrap (BitVec.ofInt 64 m ^^^ BitVec.ofInt 64 n).toNat
def shrI (m n : Int) : Int := m.fdiv (2 ^ (min n.toNat 64))
theorem andI_255 (m : Int) : 0 ≤ andI m 255 ∧ andI m 255 ≤ 255 := by
  have h : (BitVec.ofInt 64 m &&& BitVec.ofInt 64 255).toNat ≤ 255 := by
    rw [BitVec.toNat_and]
    exact Nat.and_le_right
  unfold andI
  rw [wrap_in _ (by omega) (by omega)]
  omega
section
variable {P : Program} {A : Amb} {σ : St} {dst : Option Nat} {ty T T' : TypeId} {pos : String} {af : Array Edge} {g : Option (Nat × Bool)} {x y : Operand}
/-- The nil pointer. -/
theorem QR_nilp : QR P σ ⟨dst, .assign (.const (.pointer none)), ty, pos, af, g⟩ .junk :=
  fun A fr' L' he _ => Quiet.pure fun S env a w hH ho => ⟨.pointer none, by simp [execOp, Act.eval], by simp only [SVr]⟩
theorem QR_and {m n : Int} (hx : σ.ev x = .d (.i .i64 m) := by rfl) (hy : σ.ev y = .d (.i .i64 n) := by rfl) : QR P σ ⟨dst, .binOp .and T x y T', ty, pos, af, g⟩ (.d (.i .i64 (andI m n))) :=
  fun A fr' L' he _ => Quiet.pure fun S env a w hH ho => by
    have h1 := ho x (by simp [Op.operands])
    have h2 := ho y (by simp [Op.operands])
    rw [he x (by simp [Op.operands]), hx, SVr.int] at h1
    rw [he y (by simp [Op.operands]), hy, SVr.int] at h2
    exact ⟨_, by simp [execOp, h1, h2, eqGuard, binOp, Op.intBits]; rfl, SVr.int.2 rfl⟩
theorem QR_xor {m n : Int} (hx : σ.ev x = .d (.i .i64 m) := by rfl) (hy : σ.ev y = .d (.i .i64 n) := by rfl) : QR P σ ⟨dst, .binOp .xor T x y T', ty, pos, af, g⟩ (.d (.i .i64 (xorI m n))) :=
  fun A fr' L' he _ => Quiet.pure fun S env a w hH ho => by
    have h1 := ho x (by simp [Op.operands])
    have h2 := ho y (by simp [Op.operands])
    rw [he x (by simp [Op.operands]), hx, SVr.int] at h1
    rw [he y (by simp [Op.operands]), hy, SVr.int] at h2
    exact ⟨_, by simp [execOp, h1, h2, eqGuard, binOp, Op.intBits]; rfl, SVr.int.2 rfl⟩
theorem QR_shr {m n : Int} {k : IntKind} (hx : σ.ev x = .d (.i .i64 m) := by rfl) (hy : σ.ev y = .d (.i k n) := by rfl) (hn : decide (0 ≤ n) = true := by rfl) : QR P σ ⟨dst, .binOp .shr T x y T', ty, pos, af, g⟩ (.d (.i .i64 (shrI m n))) :=
  fun A fr' L' he _ => Quiet.pure fun S env a w hH ho => by
    have h1 := ho x (by simp [Op.operands])
    have h2 := ho y (by simp [Op.operands])
    rw [he x (by simp [Op.operands]), hx, SVr.int] at h1
    rw [he y (by simp [Op.operands]), hy, SVr.int] at h2
    have h0 : ¬ n < 0 := by have := of_decide_eq_true hn; omega
    exact ⟨_, by simp [execOp, h1, h2, eqGuard, binOp, Op.shift, h0]; rfl, SVr.int.2 rfl⟩
theorem QR_rem {m n : Int} (h0 : n ≠ 0) (hx : σ.ev x = .d (.i .i64 m) := by rfl) (hy : σ.ev y = .d (.i .i64 n) := by rfl) : QR P σ ⟨dst, .binOp .rem T x y T', ty, pos, af, g⟩ (.d (.i .i64 (m.tmod n))) :=
  fun A fr' L' he _ => Quiet.pure fun S env a w hH ho => by
    have h1 := ho x (by simp [Op.operands])
    have h2 := ho y (by simp [Op.operands])
    rw [he x (by simp [Op.operands]), hx, SVr.int] at h1
    rw [he y (by simp [Op.operands]), hy, SVr.int] at h2
    exact ⟨_, by simp [execOp, h1, h2, eqGuard, binOp, Op.intDiv, h0], SVr.int.2 rfl⟩
theorem QR_cv {T2 : TypeId} {k k1 k2 : IntKind} {m : Int} (h1 : P.underlying T = some (.int k1)) (h2 : P.underlying T2 = some (.int k2)) (hx : σ.ev x = .d (.i k m) := by rfl) : QR P σ ⟨dst, .convert T T2 x, ty, pos, af, g⟩ (.d (.i k2 (k2.wrap m))) :=
  fun A fr' L' he _ => Q_convI (by rw [he x (by simp [Op.operands])]; exact hx) h1 h2
end
end Go.Eng
