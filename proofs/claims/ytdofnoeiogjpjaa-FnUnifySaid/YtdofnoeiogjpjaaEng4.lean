/- The engine, part 4: the quiet operations: those that write nothing that was there. -/
import Derived.Test.YtdofnoeiogjpjaaEng3
namespace Go.Eng
open Go Go.RowKit

def tyI (P : Program) (T : TypeId) : Option (Bool × Nat × Nat) :=
  match P.info? T, P.underlying T with
  | some i, some (.struct _) => some (true, i.size, i.bytes)
  | some i, some (.array _ _) => some (true, i.size, i.bytes)
  | some i, some _ => some (false, i.size, i.bytes)
  | _, _ => none
def tyE (P : Program) (T : TypeId) : Option TypeId :=
  match P.underlying T with
  | some (.slice e) => some e
  | _ => none
def tyF (P : Program) (T : TypeId) (f : Nat) : Option Nat :=
  match P.underlying T with
  | some (.struct fs) => match fs[f]? with
    | some fd => if (tyI P fd.type).map (·.2.1) = some 0 then none else (tyI P fd.type).map fun _ => fd.offset
    | none => none
  | _ => none
def tyZ (P : Program) (T : TypeId) : Option (List Value) :=
  match P.info? T with
  | some i => i.zero.map (·.cells.toList)
  | none => none

section
variable {P : Program} {A : Amb} {σ σ' : St} {K K' : St → Prop}

theorem run_isAgg {T : TypeId} {g : Bool} {n b : Nat} (h : tyI P T = some (g, n, b)) (w : World) : (isAgg T).run P w = .ok g w := by
  unfold tyI at h
  unfold isAgg
  split at h
  · rename_i i fs h1 h2
    simp only [Option.some.injEq, Prod.mk.injEq] at h
    simp [run_underlying h2, h.1]
  · rename_i i m e h1 h2
    simp only [Option.some.injEq, Prod.mk.injEq] at h
    simp [run_underlying h2, h.1]
  · rename_i i d hs ha h1 h2
    simp only [Option.some.injEq, Prod.mk.injEq] at h
    simp only [Sem.run_bind, run_underlying h2, Result.andThen_ok]
    cases d with
    | struct fs => exact (hs fs rfl).elim
    | array m e => exact (ha m e rfl).elim
    | _ => simp [← h.1]
  · cases h
theorem run_typeInfo {T : TypeId} {i : TypeInfo} (h : P.info? T = some i) (w : World) : (typeInfo T).run P w = .ok i w := by
  simp [typeInfo, h]
theorem tyI_info {T : TypeId} {g : Bool} {n b : Nat} (h : tyI P T = some (g, n, b)) : ∃ i, P.info? T = some i ∧ i.size = n ∧ i.bytes = b := by
  unfold tyI at h
  split at h <;> first
    | (rename_i i _ h1 _; simp only [Option.some.injEq, Prod.mk.injEq] at h; exact ⟨i, h1, h.2.1, h.2.2⟩)
    | (rename_i i _ _ h1 _; simp only [Option.some.injEq, Prod.mk.injEq] at h; exact ⟨i, h1, h.2.1, h.2.2⟩)
    | (rename_i i _ _ _ h1 _; simp only [Option.some.injEq, Prod.mk.injEq] at h; exact ⟨i, h1, h.2.1, h.2.2⟩)
    | cases h
theorem run_sizeOf {T : TypeId} {g : Bool} {n b : Nat} (h : tyI P T = some (g, n, b)) (w : World) : (sizeOf T).run P w = .ok n w := by
  obtain ⟨i, h1, h2, _⟩ := tyI_info h
  simp [sizeOf, run_typeInfo h1, h2]
theorem tyE_und {T e : TypeId} (h : tyE P T = some e) : P.underlying T = some (.slice e) := by
  unfold tyE at h
  split at h
  · rename_i e' h'; simp only [Option.some.injEq] at h; rw [h', h]
  · cases h

/-- A quiet operation: given its operands it yields a value that reads as sv; nothing that was there is turned. -/
def Quiet (P : Program) (A : Amb) (σ : St) (o : Oper) (sv : SV) : Prop :=
  ∀ (S : Nat → Prop) (env : List Value) (a : Act) (w : World), HeapR A S σ.L env w → (∀ x ∈ o.op.operands.toList, SVr S σ.L env w (σ.ev x) (a.eval x)) →
    ∀ (next : Act → World → Prop) (R : Exit → Act → World → Prop),
      (∀ v w' S', HeapR A S' σ.L env w' → Carry S σ.L env w S' σ.L env w' → SVr S' σ.L env w' sv v → next (a.put o.dst v) w') → o.wp P a w next R

theorem Act.getD_put (a : Act) (t : Nat) (v : Value) (ht : t < a.tmps.size) (u : Nat) : (a.put (some t) v).tmps.getD u undef = if u = t then v else a.tmps.getD u undef := by
  simp only [Act.put, Array.getD_eq_getD_getElem?, Array.getElem?_setIfInBounds]
  by_cases h : t = u
  · subst h; simp [ht]
  · rw [if_neg h, if_neg (fun e => h e.symm)]

/-- A slot is laid. -/
theorem realz_put {S S' : Nat → Prop} {env env' : List Value} {a : Act} {w w' : World} {L' : List LO} {t : Nat} {sv : SV} {v : Value}
    (hf : ∀ t, SVr S σ.L env w (look σ.fr t) (a.tmps.getD t undef)) (hN : a.tmps.size = σ.N) (hd : a.defers = [])
    (ht : Nat.blt t σ.N = true) (hH' : HeapR A S' L' env' w') (C : Carry S σ.L env w S' L' env' w') (hv : SVr S' L' env' w' sv v) :
    Realz A ⟨(t, sv) :: σ.fr, L', σ.N⟩ (a.put (some t) v) w' := by
  have ht' : t < a.tmps.size := by rw [hN]; simpa [Nat.blt_eq] using ht
  refine ⟨S', env', hH', fun u => ?_, by simp [Act.put, hN], by simp [Act.put, hd]⟩
  rw [Act.getD_put a t v ht' u]
  simp only [look]
  split
  · exact hv
  · exact SVr.carry C _ _ (hf u)
theorem realz_put_none {S S' : Nat → Prop} {env env' : List Value} {a : Act} {w w' : World} {L' : List LO} {v : Value}
    (hf : ∀ t, SVr S σ.L env w (look σ.fr t) (a.tmps.getD t undef)) (hN : a.tmps.size = σ.N) (hd : a.defers = [])
    (hH' : HeapR A S' L' env' w') (C : Carry S σ.L env w S' L' env' w') :
    Realz A ⟨σ.fr, L', σ.N⟩ (a.put none v) w' :=
  ⟨S', env', hH', fun u => SVr.carry C _ _ (hf u), hN, hd⟩

theorem VO_nil {ops : Array Oper} (h : K σ) : VO P A ops [] σ K := fun _ hR _ _ hr => hR _ _ _ h hr
theorem VO_q {ops : Array Oper} {rest : List Oper} {t : Nat} {op : Op} {ty : TypeId} {pos : String} {af : Array Edge} {sv : SV} {fr : List (Nat × SV)} {L : List LO} {N : Nat}
    (hq : Quiet P A ⟨fr, L, N⟩ ⟨some t, op, ty, pos, af, none⟩ sv) (ht : Nat.blt t N = true) (h : VO P A ops rest ⟨(t, sv) :: fr, L, N⟩ K) :
    VO P A ops (⟨some t, op, ty, pos, af, none⟩ :: rest) ⟨fr, L, N⟩ K := by
  intro R hR a w ⟨S, env, hH, hf, hN, hd⟩
  refine wpList_plain rfl fun K' hK' => ?_
  refine hq S env a w hH (fun x _ => Realz.ev hf hH x) _ _ ?_
  intro v w' S' hH' C hv
  exact hK' _ _ (h R hR _ _ (realz_put hf hN hd ht hH' C hv))
/-- A guarded operation that runs. -/
theorem VO_run {ops : Array Oper} {rest : List Oper} {dst : Option Nat} {op : Op} {ty : TypeId} {pos : String} {af : Array Edge} {j tj : Nat} {want : Bool} {o' : Oper} {fr : List (Nat × SV)} {L : List LO} {N : Nat}
    (hj : ops[j]? = some o') (hdst : o'.dst = some tj) (htj : Nat.blt tj N = true) (hb : look fr tj = .d (.b want)) (h : VO P A ops (⟨dst, op, ty, pos, af, none⟩ :: rest) ⟨fr, L, N⟩ K) :
    VO P A ops (⟨dst, op, ty, pos, af, some (j, want)⟩ :: rest) ⟨fr, L, N⟩ K := by
  intro R hR a w hr
  have h1 := h R hR a w hr
  obtain ⟨S, env, hH, hf, hN, hd⟩ := hr
  have h2 := hf tj
  rw [hb] at h2
  simp only [SVr] at h2
  obtain ⟨cs, h3, h4⟩ := h2
  simp only [Rd] at h4
  subst h4
  simp only [val, U.isSt, Bool.false_eq_true, if_false, List.headD_cons] at h3
  have ht' : tj < a.tmps.size := by rw [hN]; simpa [Nat.blt_eq] using htj
  have hy : yielded ops a.tmps j = some want := by
    simp only [yielded, hj, hdst, Option.bind_some]
    have : a.tmps[tj]? = some (.bool want) := by
      rw [Array.getD_eq_getD_getElem?, Array.getElem?_eq_getElem ht'] at h3
      rw [Array.getElem?_eq_getElem ht']
      have h3' : a.tmps[tj] = .bool want := by simpa using h3
      rw [h3']
    rw [this]
  unfold wpList at h1 ⊢
  simp only [Region.wanted, if_true] at h1
  simp only [Region.wanted, hy, beq_self_eq_true, if_true]
  exact h1
/-- A guarded operation that is passed over. -/
theorem VO_pass {ops : Array Oper} {rest : List Oper} {t : Nat} {op : Op} {ty : TypeId} {pos : String} {af : Array Edge} {j tj : Nat} {want x : Bool} {o' : Oper} {fr : List (Nat × SV)} {L : List LO} {N : Nat}
    (hj : ops[j]? = some o') (hdst : o'.dst = some tj) (htj : Nat.blt tj N = true) (hb : look fr tj = .d (.b x)) (hx : (x == want) = false) (ht : Nat.blt t N = true)
    (h : VO P A ops rest ⟨(t, .junk) :: fr, L, N⟩ K) :
    VO P A ops (⟨some t, op, ty, pos, af, some (j, want)⟩ :: rest) ⟨fr, L, N⟩ K := by
  intro R hR a w ⟨S, env, hH, hf, hN, hd⟩
  have h1 := h R hR (a.put (some t) undef) w (realz_put hf hN hd ht hH Carry.refl (by simp only [SVr]))
  have h2 := hf tj
  rw [hb] at h2
  simp only [SVr] at h2
  obtain ⟨cs, h3, h4⟩ := h2
  simp only [Rd] at h4
  subst h4
  simp only [val, U.isSt, Bool.false_eq_true, if_false, List.headD_cons] at h3
  have ht' : tj < a.tmps.size := by rw [hN]; simpa [Nat.blt_eq] using htj
  have hy : yielded ops a.tmps j = some x := by
    simp only [yielded, hj, hdst, Option.bind_some]
    have : a.tmps[tj]? = some (.bool x) := by
      rw [Array.getD_eq_getD_getElem?, Array.getElem?_eq_getElem ht'] at h3
      rw [Array.getElem?_eq_getElem ht']
      have h3' : a.tmps[tj] = .bool x := by simpa using h3
      rw [h3']
    rw [this]
  unfold wpList
  have hw : (some x == some want) = false := by cases x <;> cases want <;> simp_all
  simp only [Region.wanted, hy, hw, Bool.false_eq_true, if_false]
  exact h1

/-- The plainest way to be quiet. -/
theorem Quiet.pure {o : Oper} {sv : SV} (h : ∀ (S : Nat → Prop) (env : List Value) (a : Act) (w : World), HeapR A S σ.L env w → (∀ x ∈ o.op.operands.toList, SVr S σ.L env w (σ.ev x) (a.eval x)) →
    ∃ v, (execOp a.eval o).run P w = .ok (.value v) w ∧ SVr S σ.L env w sv v) : Quiet P A σ o sv := by
  intro S env a w hH hx next R hn
  obtain ⟨v, h1, h2⟩ := h S env a w hH hx
  unfold Oper.wp
  rw [h1]
  exact hn v w S hH Carry.refl h2

section
variable {dst : Option Nat} {ty : TypeId} {pos : String} {af : Array Edge} {g : Option (Nat × Bool)} {x y : Operand} {sv : SV}

theorem Q_move (h : σ.ev x = sv) : Quiet P A σ ⟨dst, .move x, ty, pos, af, g⟩ sv := Quiet.pure fun S env a w hH hx =>
  ⟨a.eval x, rfl, h ▸ hx x (by simp [Op.operands])⟩
section
variable {u : U} {i off ver z k f : Nat} {l : List SV}
theorem Q_move_d (h : σ.ev x = .d u) : Quiet P A σ ⟨dst, .move x, ty, pos, af, g⟩ (.d u) := Q_move h
theorem Q_move_ptr (h : σ.ev x = .ptr i off) : Quiet P A σ ⟨dst, .move x, ty, pos, af, g⟩ (.ptr i off) := Q_move h
theorem Q_move_sl (h : σ.ev x = .sl i ver) : Quiet P A σ ⟨dst, .move x, ty, pos, af, g⟩ (.sl i ver) := Q_move h
theorem Q_move_dp (h : σ.ev x = .dp u) : Quiet P A σ ⟨dst, .move x, ty, pos, af, g⟩ (.dp u) := Q_move h
theorem Q_move_ep (h : σ.ev x = .ep i ver z k off) : Quiet P A σ ⟨dst, .move x, ty, pos, af, g⟩ (.ep i ver z k off) := Q_move h
theorem Q_move_ag (h : σ.ev x = .ag l) : Quiet P A σ ⟨dst, .move x, ty, pos, af, g⟩ (.ag l) := Q_move h
theorem Q_move_tup (h : σ.ev x = .tup l) : Quiet P A σ ⟨dst, .move x, ty, pos, af, g⟩ (.tup l) := Q_move h
theorem Q_move_fn (h : σ.ev x = .fn f l) : Quiet P A σ ⟨dst, .move x, ty, pos, af, g⟩ (.fn f l) := Q_move h
theorem Q_move_nil (h : σ.ev x = .nilsl) : Quiet P A σ ⟨dst, .move x, ty, pos, af, g⟩ .nilsl := Q_move h
theorem Q_assign (h : σ.ev x = sv) : Quiet P A σ ⟨dst, .assign x, ty, pos, af, g⟩ sv := Quiet.pure fun S env a w hH hx =>
  ⟨a.eval x, rfl, h ▸ hx x (by simp [Op.operands])⟩
theorem Q_assign_d (h : σ.ev x = .d u) : Quiet P A σ ⟨dst, .assign x, ty, pos, af, g⟩ (.d u) := Q_assign h
theorem Q_assign_ptr (h : σ.ev x = .ptr i off) : Quiet P A σ ⟨dst, .assign x, ty, pos, af, g⟩ (.ptr i off) := Q_assign h
theorem Q_assign_sl (h : σ.ev x = .sl i ver) : Quiet P A σ ⟨dst, .assign x, ty, pos, af, g⟩ (.sl i ver) := Q_assign h
theorem Q_assign_dp (h : σ.ev x = .dp u) : Quiet P A σ ⟨dst, .assign x, ty, pos, af, g⟩ (.dp u) := Q_assign h
theorem Q_assign_ep (h : σ.ev x = .ep i ver z k off) : Quiet P A σ ⟨dst, .assign x, ty, pos, af, g⟩ (.ep i ver z k off) := Q_assign h
theorem Q_assign_ag (h : σ.ev x = .ag l) : Quiet P A σ ⟨dst, .assign x, ty, pos, af, g⟩ (.ag l) := Q_assign h
theorem Q_assign_tup (h : σ.ev x = .tup l) : Quiet P A σ ⟨dst, .assign x, ty, pos, af, g⟩ (.tup l) := Q_assign h
theorem Q_assign_fn (h : σ.ev x = .fn f l) : Quiet P A σ ⟨dst, .assign x, ty, pos, af, g⟩ (.fn f l) := Q_assign h
theorem Q_assign_nil (h : σ.ev x = .nilsl) : Quiet P A σ ⟨dst, .assign x, ty, pos, af, g⟩ .nilsl := Q_assign h
end
theorem SVr.int {S : Nat → Prop} {L : List LO} {env : List Value} {w : World} {k : IntKind} {n : Int} {v : Value} : SVr S L env w (.d (.i k n)) v ↔ v = .int k n := by
  simp only [SVr, RdV, Rd]
  exact ⟨fun ⟨cs, h1, h2⟩ => by subst h2; exact h1, fun h => ⟨[.int k n], h, rfl⟩⟩
theorem SVr.bool {S : Nat → Prop} {L : List LO} {env : List Value} {w : World} {b : Bool} {v : Value} : SVr S L env w (.d (.b b)) v ↔ v = .bool b := by
  simp only [SVr, RdV, Rd]
  exact ⟨fun ⟨cs, h1, h2⟩ => by subst h2; exact h1, fun h => ⟨[.bool b], h, rfl⟩⟩
theorem SVr.str {S : Nat → Prop} {L : List LO} {env : List Value} {w : World} {l : List UInt8} {v : Value} : SVr S L env w (.d (.s l)) v ↔ l.length ≤ big ∧ v = .string ⟨l.toArray⟩ := by
  simp only [SVr, RdV, Rd]
  exact ⟨fun ⟨cs, h1, h2, h3⟩ => by subst h3; exact ⟨h2, h1⟩, fun h => ⟨[.string ⟨l.toArray⟩], h.2, h.1, rfl⟩⟩

theorem Q_pick {c : Operand} {t : Bool} (hc : σ.ev c = .d (.b t)) (h : (if t then σ.ev x else σ.ev y) = sv) : Quiet P A σ ⟨dst, .pick c x y, ty, pos, af, g⟩ sv := Quiet.pure fun S env a w hH hx => by
  have h1 := hx c (by simp [Op.operands])
  rw [hc, SVr.bool] at h1
  refine ⟨if t then a.eval x else a.eval y, by cases t <;> simp [execOp, asBool, h1], ?_⟩
  subst h
  cases t
  · exact hx y (by simp [Op.operands])
  · exact hx x (by simp [Op.operands])

theorem Q_pick_t {c : Operand} {u : U} (hc : σ.ev c = .d (.b true)) (h : σ.ev x = .d u) : Quiet P A σ ⟨dst, .pick c x y, ty, pos, af, g⟩ (.d u) := Q_pick hc h
theorem Q_pick_f {c : Operand} {u : U} (hc : σ.ev c = .d (.b false)) (h : σ.ev y = .d u) : Quiet P A σ ⟨dst, .pick c x y, ty, pos, af, g⟩ (.d u) := Q_pick hc h
def cmpI : BinOp → Int → Int → Option Bool
  | .eql, a, b => some (a == b)
  | .neq, a, b => some (a != b)
  | .lss, a, b => some (decide (a < b))
  | .leq, a, b => some (decide (a ≤ b))
  | .gtr, a, b => some (decide (a > b))
  | .geq, a, b => some (decide (a ≥ b))
  | _, _, _ => none
theorem Q_cmp {op : BinOp} {T T' : TypeId} {k : IntKind} {m n : Int} {r : Bool} (hx : σ.ev x = .d (.i k m)) (hy : σ.ev y = .d (.i k n)) (h : cmpI op m n = some r) :
    Quiet P A σ ⟨dst, .binOp op T x y T', ty, pos, af, g⟩ (.d (.b r)) := Quiet.pure fun S env a w hH ho => by
  have h1 := ho x (by simp [Op.operands])
  have h2 := ho y (by simp [Op.operands])
  rw [hx, SVr.int] at h1
  rw [hy, SVr.int] at h2
  refine ⟨.bool r, ?_, SVr.bool.2 rfl⟩
  cases op <;> simp [cmpI] at h <;> simp [execOp, h1, h2, eqGuard, binOp, Op.intCmp, h]
def arI : BinOp → IntKind → Int → Int → Option Int
  | .add, k, a, b => some (k.wrap (a + b))
  | .sub, k, a, b => some (k.wrap (a - b))
  | .mul, k, a, b => some (k.wrap (a * b))
  | _, _, _, _ => none
theorem Q_ar {op : BinOp} {T T' : TypeId} {k : IntKind} {m n r : Int} (hx : σ.ev x = .d (.i k m)) (hy : σ.ev y = .d (.i k n)) (h : arI op k m n = some r) :
    Quiet P A σ ⟨dst, .binOp op T x y T', ty, pos, af, g⟩ (.d (.i k r)) := Quiet.pure fun S env a w hH ho => by
  have h1 := ho x (by simp [Op.operands])
  have h2 := ho y (by simp [Op.operands])
  rw [hx, SVr.int] at h1
  rw [hy, SVr.int] at h2
  refine ⟨.int k r, ?_, SVr.int.2 rfl⟩
  cases op <;> simp [arI] at h <;> simp [execOp, h1, h2, eqGuard, binOp, Op.intArith, h]
theorem wrap_in (n : Int) (h1 : -9223372036854775808 ≤ n) (h2 : n ≤ 9223372036854775807) : IntKind.i64.wrap n = n := IntWalk.i64_in n ⟨h1, h2⟩
theorem Q_add {T T' : TypeId} {m n : Int} (hx : σ.ev x = .d (.i .i64 m)) (hy : σ.ev y = .d (.i .i64 n)) (h1 : -9223372036854775808 ≤ m + n) (h2 : m + n ≤ 9223372036854775807) :
    Quiet P A σ ⟨dst, .binOp .add T x y T', ty, pos, af, g⟩ (.d (.i .i64 (m + n))) := Q_ar hx hy (by simp [arI, wrap_in _ h1 h2])
theorem Q_sub {T T' : TypeId} {m n : Int} (hx : σ.ev x = .d (.i .i64 m)) (hy : σ.ev y = .d (.i .i64 n)) (h1 : -9223372036854775808 ≤ m - n) (h2 : m - n ≤ 9223372036854775807) :
    Quiet P A σ ⟨dst, .binOp .sub T x y T', ty, pos, af, g⟩ (.d (.i .i64 (m - n))) := Q_ar hx hy (by simp [arI, wrap_in _ h1 h2])
theorem Q_not {T : TypeId} {t : Bool} (hx : σ.ev x = .d (.b t)) : Quiet P A σ ⟨dst, .unOp .not T x, ty, pos, af, g⟩ (.d (.b (!t))) := Quiet.pure fun S env a w hH ho => by
  have h1 := ho x (by simp [Op.operands])
  rw [hx, SVr.bool] at h1
  exact ⟨.bool (!t), by simp [execOp, h1, Op.unary], SVr.bool.2 rfl⟩
theorem Q_eqs {T T' : TypeId} {l l' : List UInt8} (hx : σ.ev x = .d (.s l)) (hy : σ.ev y = .d (.s l')) :
    Quiet P A σ ⟨dst, .binOp .eql T x y T', ty, pos, af, g⟩ (.d (.b (l == l'))) := Quiet.pure fun S env a w hH ho => by
  have h1 := ho x (by simp [Op.operands])
  have h2 := ho y (by simp [Op.operands])
  rw [hx, SVr.str] at h1
  rw [hy, SVr.str] at h2
  refine ⟨.bool (l == l'), ?_, SVr.bool.2 rfl⟩
  simp [execOp, h1.2, h2.2, eqGuard, binOp, Op.stringOp, ByteArray.toList_eq]
theorem Q_nes {T T' : TypeId} {l l' : List UInt8} (hx : σ.ev x = .d (.s l)) (hy : σ.ev y = .d (.s l')) :
    Quiet P A σ ⟨dst, .binOp .neq T x y T', ty, pos, af, g⟩ (.d (.b (!(l == l')))) := Quiet.pure fun S env a w hH ho => by
  have h1 := ho x (by simp [Op.operands])
  have h2 := ho y (by simp [Op.operands])
  rw [hx, SVr.str] at h1
  rw [hy, SVr.str] at h2
  refine ⟨.bool (!(l == l')), ?_, SVr.bool.2 rfl⟩
  simp [execOp, h1.2, h2.2, eqGuard, binOp, Op.stringOp, ByteArray.toList_eq]

theorem run_eqIn_bool {T : TypeId} (hT : P.underlying T = some .bool) (d : Nat) (a b : Bool) (w : World) : (Op.equalIn (d + 1) T (.bool a) (.bool b)).run P w = .ok (a == b) w := by
  simp [Op.equalIn, run_underlying hT]
theorem run_eq_bool {T : TypeId} (hT : P.underlying T = some .bool) (a b : Bool) (w : World) : (Op.equal T (.bool a) (.bool b)).run P w = .ok (a == b) w := run_eqIn_bool hT 9999 a b w
theorem Q_neb {T T' : TypeId} {a b : Bool} (hT : P.underlying T = some .bool) (hx : σ.ev x = .d (.b a)) (hy : σ.ev y = .d (.b b)) :
    Quiet P A σ ⟨dst, .binOp .neq T x y T', ty, pos, af, g⟩ (.d (.b (!(a == b)))) := Quiet.pure fun S env ac w hH ho => by
  have h1 := ho x (by simp [Op.operands])
  have h2 := ho y (by simp [Op.operands])
  rw [hx, SVr.bool] at h1
  rw [hy, SVr.bool] at h2
  refine ⟨.bool (!(a == b)), ?_, SVr.bool.2 rfl⟩
  simp [execOp, h1, h2, eqGuard, binOp, run_eq_bool hT]
theorem Q_eqb {T T' : TypeId} {a b : Bool} (hT : P.underlying T = some .bool) (hx : σ.ev x = .d (.b a)) (hy : σ.ev y = .d (.b b)) :
    Quiet P A σ ⟨dst, .binOp .eql T x y T', ty, pos, af, g⟩ (.d (.b (a == b))) := Quiet.pure fun S env ac w hH ho => by
  have h1 := ho x (by simp [Op.operands])
  have h2 := ho y (by simp [Op.operands])
  rw [hx, SVr.bool] at h1
  rw [hy, SVr.bool] at h2
  refine ⟨.bool (a == b), ?_, SVr.bool.2 rfl⟩
  simp [execOp, h1, h2, eqGuard, binOp, run_eq_bool hT]
/-- Two structs of two ints, compared. -/
def EqPair (P : Program) (T : TypeId) : Prop := ∀ (w : World) (a b c d : Int),
  P.eqGuardType P.depth T = false ∧ (Op.equal T (.agg #[.int .i64 a, .int .i64 b]) (.agg #[.int .i64 c, .int .i64 d])).run P w = .ok (a == c && b == d) w
theorem SVr.pair {S : Nat → Prop} {L : List LO} {env : List Value} {w : World} {a b : Int} {v : Value} : SVr S L env w (.ag [.d (.i .i64 a), .d (.i .i64 b)]) v ↔ v = .agg #[.int .i64 a, .int .i64 b] := by
  constructor
  · intro h
    rw [SVr.eq_def] at h
    obtain ⟨vs, rfl, h⟩ := h
    match vs, h with
    | [v1, v2], h =>
      simp only [SVrs] at h
      rw [SVr.int, SVr.int] at h
      obtain ⟨rfl, rfl, _⟩ := h
      rfl
    | [], h => simp [SVrs] at h
    | [_], h => simp [SVrs] at h
    | _ :: _ :: _ :: _, h => simp [SVrs] at h
  · rintro rfl
    rw [SVr.eq_def]
    refine ⟨[.int .i64 a, .int .i64 b], rfl, ?_⟩
    simp only [SVrs]
    rw [SVr.int, SVr.int]
    exact ⟨rfl, rfl, trivial⟩
theorem Q_eqp {T T' : TypeId} {a b c d : Int} (hE : EqPair P T) (hx : σ.ev x = .ag [.d (.i .i64 a), .d (.i .i64 b)]) (hy : σ.ev y = .ag [.d (.i .i64 c), .d (.i .i64 d)]) :
    Quiet P A σ ⟨dst, .binOp .eql T x y T', ty, pos, af, g⟩ (.d (.b (a == c && b == d))) := Quiet.pure fun S env ac w hH ho => by
  have h1 := ho x (by simp [Op.operands])
  have h2 := ho y (by simp [Op.operands])
  rw [hx, SVr.pair] at h1
  rw [hy, SVr.pair] at h2
  refine ⟨.bool (a == c && b == d), ?_, SVr.bool.2 rfl⟩
  have := hE w a b c d
  simp [execOp, h1, h2, eqGuard, binOp, this.1, this.2]
theorem Q_nep {T T' : TypeId} {a b c d : Int} (hE : EqPair P T) (hx : σ.ev x = .ag [.d (.i .i64 a), .d (.i .i64 b)]) (hy : σ.ev y = .ag [.d (.i .i64 c), .d (.i .i64 d)]) :
    Quiet P A σ ⟨dst, .binOp .neq T x y T', ty, pos, af, g⟩ (.d (.b (!(a == c && b == d)))) := Quiet.pure fun S env ac w hH ho => by
  have h1 := ho x (by simp [Op.operands])
  have h2 := ho y (by simp [Op.operands])
  rw [hx, SVr.pair] at h1
  rw [hy, SVr.pair] at h2
  refine ⟨.bool (!(a == c && b == d)), ?_, SVr.bool.2 rfl⟩
  have := hE w a b c d
  simp [execOp, h1, h2, eqGuard, binOp, this.1, this.2]
end
end
end Go.Eng
