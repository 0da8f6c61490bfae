/- The engine, part 46: short names for the blocks of my templates. -/
import Derived.Test.YtdofnoeiogjpjaaEng43
set_option linter.unusedVariables false
set_option linter.unusedSimpArgs false
namespace Go.Eng
open Go Go.RowKit
section
variable {P : Program} {A : Amb} {σ : St} {dst : Option Nat} {ty : TypeId} {pos : String} {af : Array Edge} {g : Option (Nat × Bool)}
theorem Q_cc {f : Operand} {fi : Nat} {args : Array Operand} {at_ : Array TypeId} {dargs : List SV} {u : U}
    (hspec : SpecP P fi dargs [u]) (hu : u.scal = true := by rfl) (hf : σ.ev f = .fn fi [] := by rfl) (hargs : WCs σ.L (args.toList.map σ.ev) dargs := by ((repeat (first | exact trivial | exact rfl | exact ⟨_, rfl⟩ | refine Exists.intro _ (And.intro rfl ?_) | refine And.intro ?_ ?_)); first | done | fail)) :
    Quiet P A σ ⟨dst, .call { callee := .value f, args := args, argTypes := at_ }, ty, pos, af, g⟩ (.d u) := Q_calll hf hspec hu hargs
/-- The empty literal, an array of shared elements. -/
theorem VO_l0a {ops : Array Oper} {K : St → Prop} {rest : List Oper} {fr : List (Nat × SV)} {L L' : List LO} {N i t : Nat} {T e z bs : Nat} {gg : Bool} [TE P T e] [TI P e gg z bs] (h : VO P A ops rest ⟨(t, .sl i 0) :: fr, L', N⟩ K) (ht : Nat.blt t N = true := by rfl) (hL' : Sn (.arr e z 0 []) L i L' := by repeat constructor) :
    VO P A ops (⟨some t, .buildSlice T 0 #[], ty, pos, af, none⟩ :: rest) ⟨fr, L, N⟩ K := by
  obtain ⟨hi, hL2⟩ := hL'.spec
  subst hi; subst hL2
  have hT : tyE P T = some e := TE.h
  have he : tyI P e = some (gg, z, bs) := TI.h
  refine VO_step rfl (fun S env a w hH hf hN hd => ?_) h
  obtain ⟨hH', C⟩ := hH.new (w' := w.alloc (.cells #[] e)) (.arr e z 0 []) (.slice (some ⟨w.heap.size, 0, none⟩) 0 0) (by simp) (fun b hb => heap_alloc_old w _ hb) rfl rfl rfl
    (fun b hb => by simp [LO.ft, blk] at hb; subst hb; simp)
    (fun C => ⟨by simp [big_eq], by simp, [], ⟨by simp, .inr ⟨w.heap.size, 0, #[], rfl, Nat.zero_le _, heap_alloc_new w _, Nat.le_refl _, by simp [maxLen], by simp, by simp⟩⟩, by simp [Rds]⟩)
  refine ⟨.value (.slice (some ⟨w.heap.size, 0, none⟩) 0 0), _, ?_, .inl ⟨_, rfl, realz_put hf hN hd ht hH' C ?_⟩⟩
  · simp [execOp, Instr.buildSlice, run_underlying (tyE_und hT), run_sizeOf he, Instr.fill, newRow]
    congr 2
    apply Array.ext'
    simp
  · simp only [SVr]
    exact ⟨.slice (some ⟨w.heap.size, 0, none⟩) 0 0, .arr e z 0 [], by rw [← hH.len]; simp, by simp, Nat.le_refl _, rfl, fun _ => rfl⟩
theorem VY_ri {ops : Array Oper} {K : St → Prop} {fr : List (Nat × SV)} {L : List LO} {N i t : Nat} {sv : SV} {op : Op} {r : List (Nat × Bool)} {pf : PF} (hi : ops[i]? = some ⟨some t, op, ty, pos, af, none⟩) (hq : QR P ⟨fr, L, N⟩ ⟨some t, op, ty, pos, af, none⟩ sv) (hv : VY P A ops K r ((i, L) :: pf) ⟨(t, sv) :: fr, L, N⟩) (ht : Nat.blt t N = true := by rfl) :
    VY P A ops K ((i, true) :: r) pf ⟨fr, L, N⟩ := VY_r hq hv hi ht
/-- A new variable that holds a function. -/
theorem VO_alf {ops : Array Oper} {K : St → Prop} {rest : List Oper} {fr : List (Nat × SV)} {L L' : List LO} {N i t : Nat} {T : TypeId} {zs : List Value} [TZ P T zs] (h : VO P A ops rest ⟨(t, .ptr i 0) :: fr, L', N⟩ K) (h1 : (zs.all fun v => v.oneCell') = true := by rfl) (ht : Nat.blt t N = true := by rfl) (hL' : Sn (.box (zs.map ofConst)) L i L' := by repeat constructor) :
    VO P A ops (⟨some t, .alloc T, ty, pos, af, none⟩ :: rest) ⟨fr, L, N⟩ K := by
  obtain ⟨hi, hL2⟩ := hL'.spec
  subst hi; subst hL2
  have hz : tyZ P T = some zs := TZ.h
  refine VO_step rfl (fun S env a w hH hf hN hd => ?_) h
  obtain ⟨z, hrun, hcells⟩ := run_zero hz w
  obtain ⟨hH', C⟩ := hH.new (w' := w.alloc (.cells z.cells T)) (.box (zs.map ofConst)) (.pointer (some ⟨w.heap.size, 0, none⟩)) (by simp) (fun b hb => heap_alloc_old w _ hb) rfl rfl rfl
    (fun b hb => by simp [LO.ft, blk] at hb; subst hb; simp)
    (fun C => ⟨w.heap.size, _, T, rfl, heap_alloc_new w _, by rw [hcells]; exact ofConsts_r zs, by rw [hcells]; exact List.all_eq_true.1 h1⟩)
  refine ⟨.value (.pointer (some ⟨w.heap.size, 0, none⟩)), w.alloc (.cells z.cells T), ?_, .inl ⟨_, rfl, realz_put hf hN hd ht hH' C ?_⟩⟩
  · simp [execOp, Instr.alloc, newVar, newRow, hrun]
  · simp only [SVr]
    exact ⟨w.heap.size, by rw [← hH.len]; simp, rfl⟩
end
end Go.Eng
namespace Go.Eng
open Go Go.RowKit
/-- A pair of integers, as data or in parts. -/
inductive IsPair : SV → Int → Int → Prop
  | ag {a b : Int} : IsPair (.ag [.d (.i .i64 a), .d (.i .i64 b)]) a b
  | d {a b : Int} : IsPair (.d (.st [.i .i64 a, .i .i64 b])) a b
section
variable {P : Program} {A : Amb} {σ : St} {dst : Option Nat} {ty T T' : TypeId} {pos : String} {af : Array Edge} {g : Option (Nat × Bool)} {x y : Operand} {a b c d : Int}
theorem IsPair.r {S : Nat → Prop} {L : List LO} {env : List Value} {w : World} {sv : SV} {v : Value} (h : IsPair sv a b) (hv : SVr S L env w sv v) : v = .agg #[.int .i64 a, .int .i64 b] := by
  cases h with
  | ag => exact SVr.pair.1 hv
  | d =>
    simp only [SVr] at hv
    obtain ⟨cs, rfl, h⟩ := hv
    simp only [Rd, Rds] at h
    obtain ⟨c1, c2, rfl, rfl, c3, c4, rfl, rfl, rfl⟩ := h
    rfl
theorem QR_eqP [TP P T] (hx : IsPair (σ.ev x) a b := by first | exact .ag | exact .d) (hy : IsPair (σ.ev y) c d := by first | exact .ag | exact .d) :
    QR P σ ⟨dst, .binOp .eql T x y T', ty, pos, af, g⟩ (.d (.b (a == c && b == d))) := fun A fr' L' he _ => Quiet.pure fun S env ac w hH ho => by
  have h1 := ho x (by simp [Op.operands])
  have h2 := ho y (by simp [Op.operands])
  rw [he x (by simp [Op.operands])] at h1
  rw [he y (by simp [Op.operands])] at h2
  have h1 := hx.r h1
  have h2 := hy.r h2
  refine ⟨.bool (a == c && b == d), ?_, SVr.bool.2 rfl⟩
  have := (TP.h : EqPair P T) w a b c d
  simp [execOp, h1, h2, eqGuard, binOp, this.1, this.2]
theorem QR_neP [TP P T] (hx : IsPair (σ.ev x) a b := by first | exact .ag | exact .d) (hy : IsPair (σ.ev y) c d := by first | exact .ag | exact .d) :
    QR P σ ⟨dst, .binOp .neq T x y T', ty, pos, af, g⟩ (.d (.b (!(a == c && b == d)))) := fun A fr' L' he _ => Quiet.pure fun S env ac w hH ho => by
  have h1 := ho x (by simp [Op.operands])
  have h2 := ho y (by simp [Op.operands])
  rw [he x (by simp [Op.operands])] at h1
  rw [he y (by simp [Op.operands])] at h2
  have h1 := hx.r h1
  have h2 := hy.r h2
  refine ⟨.bool (!(a == c && b == d)), ?_, SVr.bool.2 rfl⟩
  have := (TP.h : EqPair P T) w a b c d
  simp [execOp, h1, h2, eqGuard, binOp, this.1, this.2]
end
end Go.Eng
namespace Go.Eng
open Go Go.RowKit
/-- Into the next region. -/
theorem gREG {X Y : Prop} (hy : Y) (h : Y → X := by
    intro hy
    first | refine V_seq_region ?_ | refine V_seq (V_seq_region ?_) | refine V_seq_draw Mix.h (by kernel_rfl) ?_ | refine V_seq (V_seq_draw Mix.h (by kernel_rfl) ?_) | refine V_region ?_ | refine V_draw Mix.h (by kernel_rfl) ?_
    exact hy) : X := h hy
theorem gNIL {X Y : Prop} (hy : Y) (h : Y → X := by
    intro hy
    first | refine VO_nil ?_ | refine VQ_nil ?_
    exact hy) : X := h hy
theorem vA {X : Prop} (h : X := by (repeat (first | exact trivial | exact rfl | exact ⟨_, rfl⟩ | refine And.intro ?_ ?_)); first | done | fail) : X := h
theorem lN {X : Prop} (h : X := by simp only [List.length_nil, List.length_cons, List.nil_append, List.cons_append, List.set_cons_zero, List.set_cons_succ, List.take_zero, List.take_succ_cons, List.drop_zero, List.drop_succ_cons, Nat.reduceAdd, Nat.zero_add] <;> rfl) : X := h
end Go.Eng
