/- The engine, part 19: the quiet operations that any order leaves alone; struct literals; heavy operations as a relation. -/
import Derived.Test.YtopgfacbgbmloaaEng18
namespace Go.Eng
open Go Go.RowKit

/-- A field of a struct: where and how long. -/
def tyFS (P : Program) (T : TypeId) (f : Nat) : Option (Nat × Nat) :=
  match P.underlying T with
  | some (.struct fs) => match fs[f]? with
    | some fd => (P.info? fd.type).map fun i => (fd.offset, i.size)
    | none => none
  | _ => none
def tyB (P : Program) (T : TypeId) : Bool :=
  match P.underlying T with
  | some (.struct fs) => fs.toList.all fun fd => (P.info? fd.type).isSome
  | _ => false
class TFS (P : Program) (T : TypeId) (f : Nat) (fo n : outParam Nat) : Prop where
  h : tyFS P T f = some (fo, n)
class TBd (P : Program) (T : TypeId) : Prop where
  h : tyB P T = true

/-- The parts of a struct literal. -/
inductive BdR (P : Program) (σ : St) (T : TypeId) : List (Nat × Operand) → List SV → List SV → Prop
  | nil {cs : List SV} : BdR P σ T [] cs cs
  | cons {f fo n : Nat} {x : Operand} {ps : List (Nat × Operand)} {cs cs' r ds : List SV} [TFS P T f fo n] (hx : Cl (σ.ev x) ds) (hn : ds.length = n) (hp : Pt fo ds cs cs') (h : BdR P σ T ps cs' r) : BdR P σ T ((f, x) :: ps) cs r

theorem fold_set (off : Nat) : ∀ (vs : List Value) (k : Nat) (cells : Array Value), off + k + vs.length ≤ cells.size →
    ((vs.zipIdx k).foldl (fun cs x => cs.setIfInBounds (off + x.2) x.1) cells).toList = cells.toList.take (off + k) ++ vs ++ cells.toList.drop (off + k + vs.length)
  | [], k, cells, _ => by simp
  | v :: vs, k, cells, h => by
    simp only [List.length_cons] at h
    simp only [List.zipIdx_cons, List.foldl_cons]
    rw [fold_set off vs (k + 1) _ (by simp; omega)]
    simp only [Array.toList_setIfInBounds, List.length_cons]
    have hlt : off + k < cells.toList.length := by simp; omega
    have e1 : (cells.toList.set (off + k) v).take (off + (k + 1)) = cells.toList.take (off + k) ++ [v] := by
      rw [List.set_eq_take_append_cons_drop, if_pos hlt, List.take_append, List.take_of_length_le (by simp; omega)]
      have : off + (k + 1) - (cells.toList.take (off + k)).length = 1 := by simp only [List.length_take]; omega
      rw [this]
      simp
    have e2 : (cells.toList.set (off + k) v).drop (off + (k + 1) + vs.length) = cells.toList.drop (off + k + (vs.length + 1)) := by
      rw [List.drop_set_of_lt (by omega)]
      congr 1
      omega
    rw [e1, e2]
    simp
theorem run_fill {place : Nat → Option (Nat × Nat)} {off n : Nat} {i : Nat} {v : Value} {rest : List (Nat × Value)} {cells : Array Value} (hp : place i = some (off, n)) (hn : v.cells.size = n) (hf : off + n ≤ cells.size) :
    Instr.fill place cells ((i, v) :: rest) = Instr.fill place (cells.toList.take off ++ v.cells.toList ++ cells.toList.drop (off + n)).toArray rest := by
  rw [Instr.fill, hp]
  simp only
  rw [if_neg (by simp only [ne_eq, hn, not_true_eq_false, decide_false, Bool.false_or, decide_eq_true_eq]; omega)]
  congr 1
  apply Array.ext'
  have h1 := fold_set off v.cells.toList 0 cells (by simp; omega)
  rw [← Array.foldl_toList, Array.toList_zipIdx]
  simp only [Nat.add_zero] at h1
  rw [h1]
  simp [hn]

section
variable {P : Program} {A : Amb} {σ : St} {K : St → Prop}
variable {dst : Option Nat} {ty : TypeId} {pos : String} {af : Array Edge} {g : Option (Nat × Bool)} {x y : Operand} {sv : SV}

theorem mapM_places {P : Program} (w : World) : ∀ (fs : List Field), (fs.all fun fd => (P.info? fd.type).isSome) = true →
    ∃ pl : List (Nat × Nat), (fs.mapM (fun f => do pure (f.offset, ← sizeOf f.type)) : Sem (List (Nat × Nat))).run P w = .ok pl w ∧ ∀ (i : Nat) (fd : Field), fs[i]? = some fd → ∃ inf, P.info? fd.type = some inf ∧ pl[i]? = some (fd.offset, inf.size)
  | [], _ => ⟨[], by simp, fun i fd h => by simp at h⟩
  | f :: fs, h => by
    simp only [List.all_cons, Bool.and_eq_true] at h
    obtain ⟨inf, hi⟩ := Option.isSome_iff_exists.1 h.1
    obtain ⟨pl, h1, h2⟩ := mapM_places w fs h.2
    refine ⟨(f.offset, inf.size) :: pl, ?_, fun i fd hfd => ?_⟩
    · simp only [List.mapM_cons, Sem.run_bind, sizeOf, run_typeInfo hi, Result.andThen_ok, Sem.run_pure] at h1 ⊢
      rw [h1]
      rfl
    · cases i with
      | zero => simp at hfd; subst hfd; exact ⟨inf, hi, rfl⟩
      | succ i => simp only [List.getElem?_cons_succ] at hfd ⊢; exact h2 i fd hfd

theorem BdR.run {S : Nat → Prop} {L : List LO} {env : List Value} {w : World} {a : Act} {T : TypeId} {fs : Array Field} {pl : List (Nat × Nat)} (hund : P.underlying T = some (.struct fs))
    (hpl : ∀ (i : Nat) (fd : Field), fs[i]? = some fd → ∃ inf, P.info? fd.type = some inf ∧ pl[i]? = some (fd.offset, inf.size)) {ps : List (Nat × Operand)} {cs r : List SV} (h : BdR P σ T ps cs r) :
    ∀ (vals : Array Value), (∀ p ∈ ps, SVr S L env w (σ.ev p.2) (a.eval p.2)) → SVrs S L env w cs vals.toList →
    ∃ vals', Instr.fill (fun i => pl[i]?) vals (ps.map fun p => (p.1, a.eval p.2)) = some vals' ∧ SVrs S L env w r vals'.toList := by
  induction h with
  | nil => intro vals _ hv; exact ⟨vals, rfl, hv⟩
  | @cons f fo n x ps cs cs' r ds tfs hx hn hp h ih =>
    intro vals hps hv
    have h0 := tfs.h
    unfold tyFS at h0
    rw [hund] at h0
    simp only at h0
    cases hfd : fs[f]? with
    | none => rw [hfd] at h0; cases h0
    | some fd =>
      rw [hfd] at h0
      obtain ⟨inf, hi, hpi⟩ := hpl f fd hfd
      simp only [hi, Option.map_some, Option.some.injEq, Prod.mk.injEq] at h0
      rw [h0.1, h0.2] at hpi
      obtain ⟨hc1, hc2⟩ := hx.spec
      have hxv := hps (f, x) (by simp)
      obtain ⟨k1, k2⟩ := SVr.cellsr (sv := σ.ev x) (by rw [hc1]; exact hc2) hxv
      rw [hc1] at k1
      have hl := SVrs.length k1
      have hlv := SVrs.length hv
      obtain ⟨q1, q2⟩ := hp.spec
      have hsz : (a.eval x).cells.size = n := by rw [← hn, hl]; simp
      have := run_fill (place := fun i => pl[i]?) (rest := ps.map fun p => (p.1, a.eval p.2)) (cells := vals) hpi hsz (by rw [← hn]; simp at hlv; omega)
      simp only [List.map_cons]
      rw [this]
      refine ih _ (fun p hp => hps p (by simp [hp])) ?_
      rw [← q2, SVrs.iff]
      rw [SVrs.iff] at hv k1
      rw [hn]
      exact All2.append (All2.append (All2.take fo hv) k1) (All2.drop (fo + n) hv)

/-- A struct literal. -/
theorem Q_build {T : TypeId} {ps : Array (Nat × Operand)} {zs : List Value} {cs r : List SV} (hB : tyB P T = true) (hz : tyZ P T = some zs) (hcs : zs.map ofConst = cs) (h : BdR P σ T ps.toList cs r) :
    Quiet P A σ ⟨dst, .build T ps, ty, pos, af, g⟩ (.ag r) := Quiet.pure fun S env a w hH ho => by
  subst hcs
  unfold tyB at hB
  cases hund : P.underlying T with
  | none => rw [hund] at hB; cases hB
  | some d =>
    rw [hund] at hB
    cases d with
    | struct fs =>
      simp only at hB
      obtain ⟨z, hrun, hcells⟩ := run_zero hz w
      obtain ⟨pl, h1, h2⟩ := mapM_places (P := P) w fs.toList hB
      have hvals : SVrs S σ.L env w (zs.map ofConst) z.cells.toList := by rw [hcells]; exact ofConsts_r zs
      obtain ⟨vals', k1, k2⟩ := h.run (a := a) hund (pl := pl) (fun i fd hfd => h2 i fd (by simpa using hfd)) z.cells (fun p hp => ho p.2 (by simp only [Op.operands]; exact List.mem_map.2 ⟨p, hp, rfl⟩)) hvals
      refine ⟨.agg vals', ?_, ?_⟩
      · have hmap : (fs.mapM (fun f => do pure (f.offset, ← sizeOf f.type)) : Sem (Array (Nat × Nat))).run P w = .ok pl.toArray w := by
          rw [← Array.toArray_toList (xs := fs)]
          simp only [List.mapM_toArray, Sem.run_map]
          rw [h1]
          rfl
        have hparts : (ps.map fun (i, x) => (i, a.eval x)).toList = ps.toList.map fun p => (p.1, a.eval p.2) := by simp
        have hfill : Instr.fill (fun i => pl.toArray[i]?) z.cells (ps.map fun (i, x) => (i, a.eval x)).toList = some vals' := by
          rw [hparts]
          simpa using k1
        simp only [execOp, Instr.build, Sem.run_bind, hrun, Result.andThen_ok, run_underlying hund, hmap, hfill, Sem.run_pure]
      · simp only [SVr]
        exact ⟨vals'.toList, by simp, k2⟩
    | _ => cases hB
end

inductive FldP (P : Program) (T : TypeId) (f : Nat) : SV → SV → Prop
  | ptr {i off fo : Nat} [TF P T f fo] : FldP P T f (.ptr i off) (.ptr i (off + fo))
  | dp {us : List U} {u : U} {fo : Nat} [TF P T f fo] (h : us[f]? = some u) (h2 : U.szs (us.take f) = fo) : FldP P T f (.dp (.st us)) (.dp u)
inductive LenP (P : Program) (T : TypeId) : SV → Int → Prop
  | sl {z : Nat} {us : List U} {e : TypeId} [TE P T e] : LenP P T (.d (.sl z us)) us.length
  | nil {e : TypeId} [TE P T e] : LenP P T .nilsl 0
  | str {l : List UInt8} [TS P T] : LenP P T (.d (.s l)) l.length
/-- Quiet operations that look at boxes and data alone. -/
inductive QE (P : Program) (σ : St) : Oper → SV → Prop
  | move {dst : Option Nat} {ty : TypeId} {pos : String} {af : Array Edge} {g : Option (Nat × Bool)} {x : Operand} {sv : SV} (h : Nf (σ.ev x) sv) : QE P σ ⟨dst, .move x, ty, pos, af, g⟩ sv
  | assign {dst : Option Nat} {ty : TypeId} {pos : String} {af : Array Edge} {g : Option (Nat × Bool)} {x : Operand} {sv : SV} (h : Nf (σ.ev x) sv) : QE P σ ⟨dst, .assign x, ty, pos, af, g⟩ sv
  | field {dst : Option Nat} {ty : TypeId} {pos : String} {af : Array Edge} {g : Option (Nat × Bool)} {x : Operand} {sv : SV} {T : TypeId} {f : Nat} (h : FldP P T f (σ.ev x) sv) : QE P σ ⟨dst, .fieldAddr T x f, ty, pos, af, g⟩ sv
  | load {dst : Option Nat} {ty : TypeId} {pos : String} {af : Array Edge} {g : Option (Nat × Bool)} {x : Operand} {sv : SV} {T : TypeId} (h : LdR P σ.L T (σ.ev x) sv) : QE P σ ⟨dst, .load T x, ty, pos, af, g⟩ sv
  | bin {dst : Option Nat} {ty : TypeId} {pos : String} {af : Array Edge} {g : Option (Nat × Bool)} {x y : Operand} {sv : SV} {op : BinOp} {T T' : TypeId} (h : BinR P T op (σ.ev x) (σ.ev y) sv) : QE P σ ⟨dst, .binOp op T x y T', ty, pos, af, g⟩ sv
  | len {dst : Option Nat} {ty : TypeId} {pos : String} {af : Array Edge} {g : Option (Nat × Bool)} {x : Operand} {T : TypeId} {n : Int} (h : LenP P T (σ.ev x) n) : QE P σ ⟨dst, .call { callee := .builtin .len, args := #[x], argTypes := #[T] }, ty, pos, af, g⟩ (.d (.i .i64 n))
  | not {dst : Option Nat} {ty : TypeId} {pos : String} {af : Array Edge} {g : Option (Nat × Bool)} {x : Operand} {T : TypeId} {t : Bool} (h : σ.ev x = .d (.b t)) : QE P σ ⟨dst, .unOp .not T x, ty, pos, af, g⟩ (.d (.b (!t)))
  | pick {dst : Option Nat} {ty : TypeId} {pos : String} {af : Array Edge} {g : Option (Nat × Bool)} {c x y : Operand} {sv : SV} (h : PkR (σ.ev c) (σ.ev x) (σ.ev y) sv) : QE P σ ⟨dst, .pick c x y, ty, pos, af, g⟩ sv
  | extract {dst : Option Nat} {ty : TypeId} {pos : String} {af : Array Edge} {g : Option (Nat × Bool)} {x : Operand} {n : Nat} {vs : List SV} {c sv : SV} (h : σ.ev x = .tup vs) (h2 : vs[n]? = some c) (h3 : Nf c sv) : QE P σ ⟨dst, .extract x n, ty, pos, af, g⟩ sv
  | build {dst : Option Nat} {ty : TypeId} {pos : String} {af : Array Edge} {g : Option (Nat × Bool)} {T : TypeId} {ps : Array (Nat × Operand)} {zs : List Value} {cs r : List SV} [TBd P T] [TZ P T zs] (hcs : zs.map ofConst = cs) (h : BdR P σ T ps.toList cs r) : QE P σ ⟨dst, .build T ps, ty, pos, af, g⟩ (.ag r)
theorem QE.quiet {P : Program} {A : Amb} {σ : St} {o : Oper} {sv : SV} (h : QE P σ o sv) : Quiet P A σ o sv := by
  cases h with
  | move h => exact Q_move h.eq
  | assign h => exact Q_assign h.eq
  | @field dst ty pos af g x sv T f h =>
    generalize hx : σ.ev x = e at h
    cases h with
    | @ptr i off fo tf => exact Q_field_ptr hx tf.h
    | @dp us u fo tf h h2 => exact Q_field_dp hx tf.h h h2
  | load h => exact (QD.load h).quiet
  | bin h => exact (QD.bin h).quiet
  | @len dst ty pos af g x T n h =>
    generalize hx : σ.ev x = e at h
    cases h with
    | @sl z us e te => exact Q_len hx te.h
    | @nil e te => exact Q_len_nil hx te.h
    | @str l ts => exact Q_len_str hx ts.h
  | not h => exact Q_not h
  | pick h => exact (QD.pick h).quiet
  | extract h h2 h3 => exact Q_extract h (h3.eq ▸ h2)
  | @build dst ty pos af g T ps zs cs r tb tz hcs h => exact Q_build tb.h tz.h hcs h
theorem LdR.keep {P : Program} {L L' : List LO} {T : TypeId} {sv sv' : SV} (hk : Keep L L') (h : LdR P L T sv sv') : LdR P L' T sv sv' := by
  cases h with
  | one h h2 h3 => exact .one (hk _ _ h) h2 h3
  | many h h2 => exact .many (hk _ _ h) h2
  | dp h h2 => exact .dp h h2
theorem BdR.same {P : Program} {σ σ' : St} {T : TypeId} {ps : List (Nat × Operand)} {cs r : List SV} (h : BdR P σ T ps cs r) : (∀ p ∈ ps, σ'.ev p.2 = σ.ev p.2) → BdR P σ' T ps cs r := by
  induction h with
  | nil => intro _; exact .nil
  | cons hx hn hp h ih => intro he; exact .cons (by rw [he _ (List.mem_cons_self ..)]; exact hx) hn hp (ih fun p hp => he p (by simp [hp]))
theorem QE.frame {P : Program} {σ σ' : St} {o : Oper} {sv : SV} (h : QE P σ o sv) (he : ∀ x ∈ o.op.operands.toList, σ'.ev x = σ.ev x) (hk : Keep σ.L σ'.L) : QE P σ' o sv := by
  cases h with
  | move h => exact .move (by rw [he _ (by simp [Op.operands])]; exact h)
  | assign h => exact .assign (by rw [he _ (by simp [Op.operands])]; exact h)
  | field h => exact .field (by rw [he _ (by simp [Op.operands])]; exact h)
  | load h => exact .load (by rw [he _ (by simp [Op.operands])]; exact h.keep hk)
  | bin h => exact .bin (by rw [he _ (by simp [Op.operands]), he _ (by simp [Op.operands])]; exact h)
  | len h => exact .len (by rw [he _ (by simp [Op.operands, Call.operands])]; exact h)
  | not h => exact .not (by rw [he _ (by simp [Op.operands])]; exact h)
  | pick h => exact .pick (by rw [he _ (by simp [Op.operands]), he _ (by simp [Op.operands]), he _ (by simp [Op.operands])]; exact h)
  | extract h h2 h3 => exact .extract (by rw [he _ (by simp [Op.operands])]; exact h) h2 h3
  | build hcs h => exact .build hcs (h.same fun p hp => he p.2 (by simp only [Op.operands]; exact List.mem_map.2 ⟨p, hp, rfl⟩))

inductive QFb (P : Program) : Bool → St → Oper → SV → Prop
  | run {o : Oper} {σ : St} {sv : SV} (h : QE P σ o sv) : QFb P true σ o sv
  | pass {o : Oper} {σ : St} : QFb P false σ o .junk
inductive QF (P : Program) (ops : Array Oper) : Oper → St → Nat → SV → Prop
  | plain {t : Nat} {op : Op} {ty : TypeId} {pos : String} {af : Array Edge} {sv : SV} {σ : St} (h : QE P σ ⟨some t, op, ty, pos, af, none⟩ sv) (ht : Nat.blt t σ.N = true) : QF P ops ⟨some t, op, ty, pos, af, none⟩ σ t sv
  | guard {t : Nat} {op : Op} {ty : TypeId} {pos : String} {af : Array Edge} {j tj : Nat} {want b : Bool} {o' : Oper} {sv : SV} {σ : St} (hj : ops[j]? = some o') (hd : o'.dst = some tj) (htj : Nat.blt tj σ.N = true) (ht : Nat.blt t σ.N = true)
      (hb : GdR want (look σ.fr tj) b) (h : QFb P b σ ⟨some t, op, ty, pos, af, some (j, want)⟩ sv) : QF P ops ⟨some t, op, ty, pos, af, some (j, want)⟩ σ t sv
section
variable {P : Program} {A : Amb} {ops : Array Oper} {K : St → Prop} {r : List (Nat × Bool)} {pf : PF} {o : Oper} {fr : List (Nat × SV)} {L L' : List LO} {N i t : Nat} {sv : SV}
theorem QF.dst {σ : St} (h : QF P ops o σ t sv) : o.dst = some t := by cases h <;> rfl
theorem QF.pst {σ : St} (h : QF P ops o σ t sv) : PSt P A ops σ.L σ o sv := by
  cases h with
  | @plain t op ty pos af sv σ h ht =>
    exact ⟨fun d hd => (by cases hd; exact ht), Keep.refl _, .inl ⟨rfl, fun fr' L' he hk => (h.frame (σ' := ⟨fr', L', σ.N⟩) he hk).quiet⟩⟩
  | @guard t op ty pos af j tj want b o' sv σ hj hd htj ht hb h =>
    refine ⟨fun d hd => (by cases hd; exact ht), Keep.refl _, ?_⟩
    have htj' : tj < σ.N := by simpa [Nat.blt_eq] using htj
    generalize hl : look σ.fr tj = e at hb
    cases h with
    | run h =>
      refine .inl ⟨?_, fun fr' L' he hk => (h.frame (σ' := ⟨fr', L', σ.N⟩) he hk).quiet⟩
      cases hb with
      | tt => exact ⟨o', tj, true, hj, hd, htj', hl, rfl⟩
      | ff => exact ⟨o', tj, _, hj, hd, htj', hl, rfl⟩
    | pass =>
      refine .inr ⟨?_, rfl⟩
      cases hb with
      | tf => exact ⟨o', tj, _, hj, hd, htj', hl, rfl⟩
      | ft => exact ⟨o', tj, _, hj, hd, htj', hl, rfl⟩
theorem VY_nil (h : K ⟨fr, L, N⟩) : VY P A ops K [] pf ⟨fr, L, N⟩ := h
/-- A quiet operation. -/
theorem VY_d (hi : ops[i]? = some o) (hv : VY P A ops K r ((i, L) :: pf) ⟨(t, sv) :: fr, L, N⟩) (h : QF P ops o ⟨fr, L, N⟩ t sv := by (repeat (first | exact Rng.mk (by omega) (by omega) | constructor)); first | done | fail) : VY P A ops K ((i, true) :: r) pf ⟨fr, L, N⟩ := by
  refine ⟨o, sv, hi, h.pst, ?_⟩
  rw [h.dst]
  exact hv
/-- A pure call, its arguments plain data. -/
theorem VY_call {f : Operand} {fi : Nat} {caps : List SV} {args : Array Operand} {at_ : Array TypeId} {ty : TypeId} {pos : String} {af : Array Edge} {dargs : List SV} {us : List U} (hi : ops[i]? = some ⟨some t, .call { callee := .value f, args := args, argTypes := at_ }, ty, pos, af, none⟩) (hf : (St.mk fr L N).ev f = .fn fi caps)
    (hspec : SpecP P fi dargs us) (hargs : ∀ L', VAs L' (args.toList.map (St.mk fr L N).ev ++ caps) dargs) (ht : Nat.blt t N = true) (hv : VY P A ops K r ((i, L) :: pf) ⟨(t, mkR us) :: fr, L, N⟩) : VY P A ops K ((i, true) :: r) pf ⟨fr, L, N⟩ := by
  refine ⟨_, mkR us, hi, ⟨fun d hd => (by cases hd; exact ht), Keep.refl _, .inl ⟨rfl, fun fr' L' he hk => ?_⟩⟩, hv⟩
  refine Q_call (caps := caps) (by rw [he f (by simp [Op.operands, Call.operands])]; exact hf) hspec ?_
  have : args.toList.map (St.mk fr' L' N).ev = args.toList.map (St.mk fr L N).ev := List.map_congr_left fun x hx => he x (by simp only [Op.operands, Call.operands]; simp; exact .inr (by simpa using hx))
  show VAs L' (args.toList.map (St.mk fr' L' N).ev ++ caps) dargs
  rw [this]
  exact hargs L'

inductive PfOk (ops : Array Oper) (i : Nat) (L' : List LO) : PF → Prop
  | nil : PfOk ops i L' []
  | keep {k : Nat} {B : List LO} {pf : PF} (h : Kp B L') (h2 : PfOk ops i L' pf) : PfOk ops i L' ((k, B) :: pf)
  | dep {k : Nat} {B : List LO} {pf : PF} (h : depB .any ops ops.size k i = true) (h2 : PfOk ops i L' pf) : PfOk ops i L' ((k, B) :: pf)
theorem PfOk.ok (h : PfOk ops i L' pf) : ∀ p ∈ pf, depB .any ops ops.size p.1 i = true ∨ Keep p.2 L' := by
  induction h with
  | nil => intro p hp; cases hp
  | keep h h2 ih =>
    intro p hp
    rcases List.mem_cons.1 hp with rfl | hp
    · exact .inr h.keep
    · exact ih p hp
  | dep h h2 ih =>
    intro p hp
    rcases List.mem_cons.1 hp with rfl | hp
    · exact .inl h
    · exact ih p hp

/-- Heavy operations that 'constructor' finds. -/
inductive OH (P : Program) (σ : St) : Oper → SV → List LO → Prop
  | box {t : Nat} {T : TypeId} {x : Operand} {ty : TypeId} {pos : String} {af : Array Edge} {L' : List LO} {i : Nat} {cs : List SV} (h : Cl (σ.ev x) cs) (ht : Nat.blt t σ.N = true) (h2 : Sn (.box cs) σ.L i L') : OH P σ ⟨some t, .box T x, ty, pos, af, none⟩ (.ptr i 0) L'
  | alloc {t : Nat} {T : TypeId} {ty : TypeId} {pos : String} {af : Array Edge} {L' : List LO} {i : Nat} {zs : List Value} {cs : List SV} [TZ P T zs] (hc : zs.map ofConst = cs) (hs : SV.ones cs = true) (ht : Nat.blt t σ.N = true) (h2 : Sn (.box cs) σ.L i L') : OH P σ ⟨some t, .alloc T, ty, pos, af, none⟩ (.ptr i 0) L'
  | store {T : TypeId} {x y : Operand} {ty : TypeId} {pos : String} {af : Array Edge} {L' : List LO} {i off n bs : Nat} {g : Bool} {cs ds cs' : List SV} (hx : σ.ev x = .ptr i off) (hL : σ.L[i]? = some (.box cs)) (hy : Cl (σ.ev y) ds) [TI P T g n bs] (hn : ds.length = n) (hp : Pt off ds cs cs') (hs : St1 (.box cs') i σ.L L') : OH P σ ⟨none, .store T x y, ty, pos, af, none⟩ .junk L'
theorem OH.vo {o : Oper} {sv : SV} (h : OH P ⟨fr, L, N⟩ o sv L') {rest : List Oper} (hv : VO P A ops rest (St.setO ⟨fr, L', N⟩ o.dst sv) K) : VO P A ops (o :: rest) ⟨fr, L, N⟩ K := by
  cases h with
  | box h ht h2 => exact VO_box rfl h.spec.1 h.spec.2 ht h2.spec.1 h2.spec.2 hv
  | @alloc t T ty pos af L' i zs cs tz hc hs ht h2 => exact VO_alloc tz.h hc hs ht h2.spec.1 h2.spec.2 hv
  | @store T x y ty pos af L' i off n bs g cs ds cs' hx hL hy ti hn hp hs =>
    subst hn
    exact VO_store hx hL rfl hy.spec.1 hy.spec.2 ti.h rfl (Nat.ble_eq_true_of_le hp.spec.1) hp.spec.2 hs.spec hv
theorem OH.frame {fr' : List (Nat × SV)} (he : ∀ x ∈ o.op.operands.toList, St.ev ⟨fr', L, N⟩ x = St.ev ⟨fr, L, N⟩ x) (h : OH P ⟨fr, L, N⟩ o sv L') : OH P ⟨fr', L, N⟩ o sv L' := by
  cases h with
  | box h ht h2 => exact .box (by rw [he _ (by simp [Op.operands])]; exact h) ht h2
  | alloc hc hs ht h2 => exact .alloc hc hs ht h2
  | store hx hL hy hn hp hs => exact .store (by rw [he _ (by simp [Op.operands])]; exact hx) hL (by rw [he _ (by simp [Op.operands])]; exact hy) hn hp hs
/-- A heavy operation in a region that draws. -/
theorem VY_h {o : Oper} (hi : ops[i]? = some o) (h : OH P ⟨fr, L, N⟩ o sv L') (hp : PfOk ops i L' pf) (hv : VY P A ops K r pf (St.setO ⟨fr, L', N⟩ o.dst sv)) : VY P A ops K ((i, false) :: r) pf ⟨fr, L, N⟩ :=
  VY_h0 ⟨hi, fun fr' he _ hK => (h.frame (fr' := fr') he).vo (VO_nil hK), hp.ok, hv⟩
end
end Go.Eng
