/- The engine, part 31: an element of plain data in a region that draws its order. -/
import Derived.Test.YtdofnoeiogjpjaaEng30
namespace Go.Eng
open Go Go.RowKit
section
variable {P : Program} {A : Amb} {ops : Array Oper} {K : St → Prop} {r : List (Nat × Bool)} {pf : PF} {fr : List (Nat × SV)} {L : List LO} {N i t : Nat}
variable {ty : TypeId} {pos : String} {af : Array Edge} {x y : Operand}
/-- A quiet operation by a rule that looks at its operands alone. -/
theorem VY_qr {o : Oper} {sv : SV} (hi : ops[i]? = some o) (hd : o.dst = some t) (hg : o.guard = none) (h : ∀ fr' L', (∀ x ∈ o.op.operands.toList, St.ev ⟨fr', L', N⟩ x = St.ev ⟨fr, L, N⟩ x) → Keep L L' → Quiet P A ⟨fr', L', N⟩ o sv) (ht : Nat.blt t N = true) (hv : VY P A ops K r ((i, L) :: pf) ⟨(t, sv) :: fr, L, N⟩) : VY P A ops K ((i, true) :: r) pf ⟨fr, L, N⟩ := by
  refine ⟨o, sv, hi, ⟨fun d h' => (by rw [hd] at h'; cases h'; exact ht), Keep.refl _, .inl ⟨by unfold Gd; simp only [hg], h⟩⟩, ?_⟩
  rw [hd]
  exact hv
theorem VY_index {T e : TypeId} {z : Nat} {us : List U} {u : U} {k : IntKind} {n : Int} {gg : Bool} {bs : Nat} (hi : ops[i]? = some ⟨some t, .indexAddr T x y, ty, pos, af, none⟩) (hx : (St.mk fr L N).ev x = .d (.sl z us)) (hy : (St.mk fr L N).ev y = .d (.i k n)) (hT : tyE P T = some e) (he : tyI P e = some (gg, z, bs))
    (hn : 0 ≤ n) (hu : us[n.toNat]? = some u) (ht : Nat.blt t N = true) (hv : VY P A ops K r ((i, L) :: pf) ⟨(t, .dp u) :: fr, L, N⟩) : VY P A ops K ((i, true) :: r) pf ⟨fr, L, N⟩ :=
  VY_qr hi rfl rfl (fun fr' L' he' _ => Q_index (by rw [he' x (by simp [Op.operands])]; exact hx) (by rw [he' y (by simp [Op.operands])]; exact hy) hT he hn hu) ht hv
end
end Go.Eng
