/- The engine, part 5: reads through pointers, lengths, indexes; quiet. -/
import Derived.Test.YtopgfacbgbmloaaEng4
namespace Go.Eng
open Go Go.RowKit

theorem run_loadVar {P : Program} {T : TypeId} {g : Bool} {n bs : Nat} (h : tyI P T = some (g, n, bs)) (w : World) (b off : Nat) (cs : List Value) (hl : cs.length = n) (hat : At w b off cs)
    (hg : g = false → n = 1) : (loadVar T ⟨b, off, none⟩).run P w = .ok (if g then .agg cs.toArray else cs.headD undef) w := by
  obtain ⟨row, e, fz, h1, h2⟩ := hat
  have hc : ∀ (j : Nat) (v : Value), cs[j]? = some v → w.cell? ((⟨b, off, none⟩ : Addr).add j) = some v := by
    intro j v hv
    have hj := (List.getElem?_eq_some_iff.1 hv).1
    have := h2 j hj
    rw [hv] at this
    rw [Addr.add_lit]
    simp [World.cell?, h1, this]
  cases g with
  | true =>
    have := run_loadCells_list (P := P) w ⟨b, off, none⟩ cs hc
    rw [hl] at this
    simp [loadVar, run_isAgg h, run_sizeOf h, this]
  | false =>
    have hn := hg rfl
    match cs, hl with
    | [c], _ =>
      have := hc 0 c rfl
      rw [Addr.add_lit, Nat.add_zero] at this
      simp [loadVar, run_isAgg h, this]
    | [], hl => simp at hl; omega
    | _ :: _ :: _, hl => simp at hl; omega

theorem sz_of_not_st {u : U} (h : u.isSt = false) : u.sz = 1 := by
  cases u <;> simp_all [U.isSt, U.sz]

section
variable {P : Program} {A : Amb} {σ : St}
variable {dst : Option Nat} {ty : TypeId} {pos : String} {af : Array Edge} {g : Option (Nat × Bool)} {x y : Operand} {sv : SV}

/-- A load out of data. -/
theorem Q_load {T : TypeId} {u : U} {gg : Bool} {n bs : Nat} (hx : σ.ev x = .dp u) (hT : tyI P T = some (gg, n, bs)) (hg : u.isSt = gg) (hn : u.sz = n) : Quiet P A σ ⟨dst, .load T x, ty, pos, af, g⟩ (.d u) := Quiet.pure fun S env a w hH ho => by
  have h1 := ho x (by simp [Op.operands])
  rw [hx] at h1
  simp only [SVr] at h1
  obtain ⟨b, off, cs, h2, h3, h4, h5⟩ := h1
  subst hg; subst hn
  refine ⟨val u cs, ?_, ?_⟩
  · have := run_loadVar hT w b off cs (Rd.length u cs h5) h4 (fun h => sz_of_not_st h)
    simp [execOp, Instr.loadAt, h2, Instr.sureAddr, this, val]
  · simp only [SVr]
    exact ⟨cs, rfl, h5⟩
/-- A field of data. -/
theorem Q_field_dp {T : TypeId} {us : List U} {u : U} {f fo : Nat} (hx : σ.ev x = .dp (.st us)) (hF : tyF P T f = some fo) (hf : us[f]? = some u) (hfo : U.szs (us.take f) = fo) :
    Quiet P A σ ⟨dst, .fieldAddr T x f, ty, pos, af, g⟩ (.dp u) := Quiet.pure fun S env a w hH ho => by
  have h1 := ho x (by simp [Op.operands])
  rw [hx] at h1
  simp only [SVr] at h1
  obtain ⟨b, off, cs, h2, h3, h4, h5⟩ := h1
  unfold tyF at hF
  split at hF
  · rename_i fs hund
    split at hF
    · rename_i fd hfd
      split at hF
      · cases hF
      · rename_i hz
        cases hty : tyI P fd.type with
        | none => rw [hty] at hF; simp at hF
        | some t3 =>
          obtain ⟨q1, q2, q3⟩ := t3
          rw [hty] at hF hz
          simp only [Option.map_some, Option.some.injEq] at hF hz
          refine ⟨.pointer (some ⟨b, off + fo, none⟩), ?_, ?_⟩
          · simp [execOp, Instr.fieldAt, h2, Instr.sureAddr, run_underlying hund, hfd, fieldPlace, run_sizeOf hty, hz, Addr.add_lit, hF]
          · simp only [SVr]
            simp only [Rd] at h5
            obtain ⟨row, e, fz, r1, r2⟩ := h4
            -- the cells of the field
            have key : ∀ (us : List U) (cs : List Value) (f : Nat), Rds S w us cs → us[f]? = some u → ∃ c1 c2 c3, cs = c1 ++ c2 ++ c3 ∧ c1.length = U.szs (us.take f) ∧ Rd S w u c2 := by
              intro us
              induction us with
              | nil => intro cs f _ hf; simp at hf
              | cons u0 us ih =>
                intro cs f h hf
                simp only [Rds] at h
                obtain ⟨d1, d2, rfl, k2, k3⟩ := h
                cases f with
                | zero =>
                  simp at hf
                  subst hf
                  exact ⟨[], d1, d2, by simp, by simp [U.szs], k2⟩
                | succ f =>
                  simp only [List.getElem?_cons_succ] at hf
                  obtain ⟨c1, c2, c3, rfl, e1, e2⟩ := ih d2 f k3 hf
                  exact ⟨d1 ++ c1, c2, c3, by simp, by simp [U.szs, e1, Rd.length _ _ k2], e2⟩
            obtain ⟨c1, c2, c3, rfl, e1, e2⟩ := key us cs f h5 hf
            refine ⟨b, off + fo, c2, rfl, h3, ⟨row, e, fz, r1, fun j hj => ?_⟩, e2⟩
            have := r2 (fo + j) (by simp; omega)
            rw [show off + fo + j = off + (fo + j) by omega, this, List.append_assoc, List.getElem?_append_right (by omega), List.getElem?_append_left (by omega)]
            congr 1
            omega
    · cases hF
  · cases hF
theorem tyF_run {T : TypeId} {f fo : Nat} (hF : tyF P T f = some fo) (w : World) (b off : Nat) : (Instr.fieldAt T (.pointer (some ⟨b, off, none⟩)) f).run P w = .ok (.pointer (some ⟨b, off + fo, none⟩)) w := by
  unfold tyF at hF
  split at hF
  · rename_i fs hund
    split at hF
    · rename_i fd hfd
      split at hF
      · cases hF
      · rename_i hz
        cases hty : tyI P fd.type with
        | none => rw [hty] at hF; simp at hF
        | some t3 =>
          obtain ⟨q1, q2, q3⟩ := t3
          rw [hty] at hF hz
          simp only [Option.map_some, Option.some.injEq] at hF hz
          simp [Instr.fieldAt, Instr.sureAddr, run_underlying hund, hfd, fieldPlace, run_sizeOf hty, hz, Addr.add_lit, hF]
    · cases hF
  · cases hF
theorem Q_field_ptr {T : TypeId} {i off f fo : Nat} (hx : σ.ev x = .ptr i off) (hF : tyF P T f = some fo) :
    Quiet P A σ ⟨dst, .fieldAddr T x f, ty, pos, af, g⟩ (.ptr i (off + fo)) := Quiet.pure fun S env a w hH ho => by
  have h1 := ho x (by simp [Op.operands])
  rw [hx] at h1
  simp only [SVr] at h1
  obtain ⟨b, h2, h3⟩ := h1
  refine ⟨.pointer (some ⟨b, off + fo, none⟩), by simp only [execOp, h3, Sem.run_bind, tyF_run hF, Result.andThen_ok, Sem.run_pure], ?_⟩
  simp only [SVr]
  exact ⟨b, h2, rfl⟩
/-- A load out of a local variable, of one cell. -/
theorem Q_load_ptr {T : TypeId} {i off : Nat} {cs : List SV} {bs : Nat} (hx : σ.ev x = .ptr i off) (hL : σ.L[i]? = some (.box cs)) (hT : tyI P T = some (false, 1, bs)) (hc : cs[off]? = some sv) :
    Quiet P A σ ⟨dst, .load T x, ty, pos, af, g⟩ sv := Quiet.pure fun S env a w hH ho => by
  have h1 := ho x (by simp [Op.operands])
  rw [hx] at h1
  simp only [SVr] at h1
  obtain ⟨b, h2, h3⟩ := h1
  obtain ⟨b', vals, e, k1, k2, k3, k4⟩ := hH.objs i _ _ hL h2
  simp only [Value.pointer.injEq, Option.some.injEq, Addr.mk.injEq, and_true] at k1
  subst k1
  obtain ⟨v, m1, m2⟩ := SVrs.get k3 off sv hc
  refine ⟨v, ?_, m2⟩
  have := run_loadVar hT w b off [v] rfl ⟨vals, e, (0, 0), k2, fun j hj => ?_⟩ (fun _ => rfl)
  · simp [execOp, Instr.loadAt, h3, Instr.sureAddr, this]
  · simp at hj
    subst hj
    simpa using m1
/-- A load out of a local variable, of several cells. -/
theorem Q_load_ptrs {T : TypeId} {i off n : Nat} {cs ds : List SV} {bs : Nat} (hx : σ.ev x = .ptr i off) (hL : σ.L[i]? = some (.box cs)) (hT : tyI P T = some (true, n, bs)) (hn : Nat.ble (off + n) cs.length = true) (hc : (cs.drop off).take n = ds) :
    Quiet P A σ ⟨dst, .load T x, ty, pos, af, g⟩ (.ag ds) := Quiet.pure fun S env a w hH ho => by
  have h1 := ho x (by simp [Op.operands])
  rw [hx] at h1
  simp only [SVr] at h1
  obtain ⟨b, h2, h3⟩ := h1
  obtain ⟨b', vals, e, k1, k2, k3, k4⟩ := hH.objs i _ _ hL h2
  simp only [Value.pointer.injEq, Option.some.injEq, Addr.mk.injEq, and_true] at k1
  subst k1
  have hlen := SVrs.length k3
  have hn' := Nat.le_of_ble_eq_true hn
  have m1 := All2.take n (All2.drop off ((SVrs.iff _ _).1 k3))
  rw [hc] at m1
  refine ⟨.agg ((vals.toList.drop off).take n).toArray, ?_, ?_⟩
  · have hl : ((vals.toList.drop off).take n).length = n := by simp at hlen ⊢; omega
    have := run_loadVar hT w b off ((vals.toList.drop off).take n) hl ⟨vals, e, (0, 0), k2, fun j hj => ?_⟩ (fun h => by cases h)
    · simp [execOp, Instr.loadAt, h3, Instr.sureAddr, this]
    · rw [hl] at hj
      rw [List.getElem?_take, if_pos hj, List.getElem?_drop]
      simp
  · simp only [SVr]
    exact ⟨_, rfl, (SVrs.iff _ _).2 m1⟩

theorem SVr.slice {S : Nat → Prop} {L : List LO} {env : List Value} {w : World} {z : Nat} {us : List U} {v : Value} : SVr S L env w (.d (.sl z us)) v ↔
    us.length ≤ big ∧ ∃ base cap, v = .slice base us.length (us.length + cap) ∧ (us = [] ∨ ∃ b off, base = some ⟨b, off, none⟩ ∧ S b ∧ RdE S w z b off us) := by
  simp only [SVr, RdV, Rd]
  constructor
  · rintro ⟨cs, h1, h2, base, cap, h3, h4⟩
    subst h3
    exact ⟨h2, base, cap, h1, h4⟩
  · rintro ⟨h2, base, cap, h3, h4⟩
    exact ⟨[.slice base us.length (us.length + cap)], h3, h2, base, cap, rfl, h4⟩
/-- An element of a slice of data. -/
theorem Q_index {T e : TypeId} {z : Nat} {us : List U} {u : U} {k : IntKind} {n : Int} {gg : Bool} {bs : Nat} (hx : σ.ev x = .d (.sl z us)) (hy : σ.ev y = .d (.i k n)) (hT : tyE P T = some e) (he : tyI P e = some (gg, z, bs))
    (hn : 0 ≤ n) (hu : us[n.toNat]? = some u) : Quiet P A σ ⟨dst, .indexAddr T x y, ty, pos, af, g⟩ (.dp u) := Quiet.pure fun S env a w hH ho => by
  have h1 := ho x (by simp [Op.operands])
  have h2 := ho y (by simp [Op.operands])
  rw [hx, SVr.slice] at h1
  rw [hy, SVr.int] at h2
  obtain ⟨_, base, cap, h3, h4⟩ := h1
  have hlt := (List.getElem?_eq_some_iff.1 hu).1
  rcases h4 with h4 | ⟨b, off, h4, h5, h6⟩
  · subst h4; simp at hu
  · obtain ⟨cs, c1, c2, c3⟩ := RdE.get us off n.toNat u h6 hu
    subst h4
    refine ⟨.pointer (some ⟨b, off + n.toNat * z, none⟩), ?_, ?_⟩
    · have hlt' : n < (us.length : Int) := by omega
      simp [execOp, Instr.indexAt, h2, h3, asIntOf, run_underlying (tyE_und hT), run_sizeOf he, hn, hlt', Addr.add_lit]
    · simp only [SVr]
      exact ⟨b, off + n.toNat * z, cs, rfl, h5, c2, c3⟩
theorem Q_len {T e : TypeId} {z : Nat} {us : List U} {T' : TypeId} (hx : σ.ev x = .d (.sl z us)) (hT : tyE P T = some e) :
    Quiet P A σ ⟨dst, .call { callee := .builtin .len, args := #[x], argTypes := #[T] }, T', pos, af, g⟩ (.d (.i .i64 us.length)) := Quiet.pure fun S env a w hH ho => by
  have h1 := ho x (by simp [Op.operands, Call.operands])
  rw [hx, SVr.slice] at h1
  obtain ⟨_, base, cap, h3, h4⟩ := h1
  exact ⟨.int .i64 us.length, by simp [execOp, resolve, invoke, builtin, Builtin.len_, h3, run_underlying (tyE_und hT), goInt], SVr.int.2 rfl⟩
theorem Q_len_nil {T e : TypeId} {T' : TypeId} (hx : σ.ev x = .nilsl) (hT : tyE P T = some e) :
    Quiet P A σ ⟨dst, .call { callee := .builtin .len, args := #[x], argTypes := #[T] }, T', pos, af, g⟩ (.d (.i .i64 0)) := Quiet.pure fun S env a w hH ho => by
  have h1 := ho x (by simp [Op.operands, Call.operands])
  rw [hx] at h1
  simp only [SVr] at h1
  exact ⟨.int .i64 0, by simp [execOp, resolve, invoke, builtin, Builtin.len_, h1, run_underlying (tyE_und hT), goInt], SVr.int.2 rfl⟩
theorem Q_len_str {T : TypeId} {l : List UInt8} {T' : TypeId} (hx : σ.ev x = .d (.s l)) (hT : P.underlying T = some .string) :
    Quiet P A σ ⟨dst, .call { callee := .builtin .len, args := #[x], argTypes := #[T] }, T', pos, af, g⟩ (.d (.i .i64 l.length)) := Quiet.pure fun S env a w hH ho => by
  have h1 := ho x (by simp [Op.operands, Call.operands])
  rw [hx, SVr.str] at h1
  exact ⟨.int .i64 l.length, by simp [execOp, resolve, invoke, builtin, Builtin.len_, h1.2, run_underlying hT, goInt]; rfl, SVr.int.2 rfl⟩
theorem arr_form {S : Nat → Prop} {L : List LO} {env : List Value} {w : World} {e z ver : Nat} {es : List U} {hv : Value} (h : ObjR S L env w (.arr e z ver es) hv) :
    (hv = .slice none 0 0 ∧ es = []) ∨ ∃ b cap, hv = .slice (some ⟨b, 0, none⟩) es.length cap := by
  obtain ⟨_, _, xs, ⟨_, h | ⟨g, cap, cur, rfl, _⟩⟩, _⟩ := h
  · exact .inl ⟨h.1, List.eq_nil_of_length_eq_zero h.2⟩
  · exact .inr ⟨g, cap, rfl⟩
theorem Q_len_arr {T e : TypeId} {i ver e' z : Nat} {es : List U} {T' : TypeId} (hx : σ.ev x = .sl i ver) (hL : σ.L[i]? = some (.arr e' z ver es)) (hT : tyE P T = some e) :
    Quiet P A σ ⟨dst, .call { callee := .builtin .len, args := #[x], argTypes := #[T] }, T', pos, af, g⟩ (.d (.i .i64 es.length)) := Quiet.pure fun S env a w hH ho => by
  have h1 := ho x (by simp [Op.operands, Call.operands])
  rw [hx] at h1
  simp only [SVr] at h1
  obtain ⟨hv, o, k1, k2, k3, k5, k4⟩ := h1
  rw [hL] at k2
  obtain rfl := Option.some.inj k2
  have k6 := k4 rfl
  rcases arr_form (hH.objs i _ hv hL k1) with ⟨r1, r2⟩ | ⟨b, cap, r1⟩
  · subst r2
    exact ⟨.int .i64 0, by simp [execOp, resolve, invoke, builtin, Builtin.len_, k6, r1, run_underlying (tyE_und hT), goInt], SVr.int.2 rfl⟩
  · exact ⟨.int .i64 es.length, by simp [execOp, resolve, invoke, builtin, Builtin.len_, k6, r1, run_underlying (tyE_und hT), goInt], SVr.int.2 rfl⟩
/-- An element of a local array. -/
theorem Q_index_arr {T e : TypeId} {i ver z : Nat} {es : List U} {k : IntKind} {n : Int} {gg : Bool} {bs : Nat} (hx : σ.ev x = .sl i ver) (hL : σ.L[i]? = some (.arr e z ver es)) (hy : σ.ev y = .d (.i k n)) (hT : tyE P T = some e) (he : tyI P e = some (gg, z, bs))
    (hn : 0 ≤ n) (hn2 : n < es.length) : Quiet P A σ ⟨dst, .indexAddr T x y, ty, pos, af, g⟩ (.ep i ver z n.toNat 0) := Quiet.pure fun S env a w hH ho => by
  have h1 := ho x (by simp [Op.operands])
  have h2 := ho y (by simp [Op.operands])
  rw [hy, SVr.int] at h2
  rw [hx] at h1
  simp only [SVr] at h1
  obtain ⟨hv, o, k1, k2, k3, k5, k4⟩ := h1
  rw [hL] at k2
  obtain rfl := Option.some.inj k2
  have k6 := k4 rfl
  rcases arr_form (hH.objs i _ hv hL k1) with ⟨r1, r2⟩ | ⟨b, cap, r1⟩
  · subst r2; simp at hn2; omega
  · refine ⟨.pointer (some ⟨b, n.toNat * z, none⟩), ?_, ?_⟩
    · simp [execOp, Instr.indexAt, h2, k6, r1, asIntOf, run_underlying (tyE_und hT), run_sizeOf he, hn, hn2, Addr.add_lit]
    · simp only [SVr]
      exact ⟨hv, _, k1, hL, Nat.le_refl _, rfl, fun _ => ⟨b, by rw [r1]; rfl, rfl⟩⟩
theorem Q_field_ep {T : TypeId} {i ver z k off f fo : Nat} {e' z' : Nat} {es : List U} (hx : σ.ev x = .ep i ver z k off) (hL : σ.L[i]? = some (.arr e' z' ver es)) (hF : tyF P T f = some fo) :
    Quiet P A σ ⟨dst, .fieldAddr T x f, ty, pos, af, g⟩ (.ep i ver z k (off + fo)) := Quiet.pure fun S env a w hH ho => by
  have h1 := ho x (by simp [Op.operands])
  rw [hx] at h1
  simp only [SVr] at h1
  obtain ⟨hv, o, k1, k2, k3, k5, k4⟩ := h1
  rw [hL] at k2
  obtain rfl := Option.some.inj k2
  obtain ⟨b, e1, e2⟩ := k4 rfl
  refine ⟨.pointer (some ⟨b, k * z + off + fo, none⟩), by simp only [execOp, e2, Sem.run_bind, tyF_run hF, Result.andThen_ok, Sem.run_pure], ?_⟩
  simp only [SVr]
  exact ⟨hv, _, k1, hL, Nat.le_refl _, rfl, fun _ => ⟨b, e1, by rw [Nat.add_assoc]⟩⟩
/-- An owned object: what it holds. -/
inductive AsO : LO → Nat → Nat → List U → Prop
  | own {e z v : Nat} {es : List U} : AsO (.own e z v es) z v es
  | ownp {h : Value} {e z : Nat} {es : List U} : AsO (.ownp h e z es) z 0 es
theorem AsO.own' {S : Nat → Prop} {L : List LO} {env : List Value} {w : World} {o : LO} {z ver : Nat} {es : List U} {hv : Value} (h : AsO o z ver es) (ho : ObjR S L env w o hv) :
    o.ver = ver ∧ o.live = true ∧ (∀ b, o.ft w hv b ↔ b ∈ (U.sl z es).fp w [hv]) ∧ ∃ e, ObjR S L env w (.own e z ver es) hv := by
  cases h with
  | own => exact ⟨rfl, rfl, fun _ => Iff.rfl, _, ho⟩
  | ownp => exact ⟨rfl, rfl, fun _ => Iff.rfl, _, ho.2⟩
theorem own_form {S : Nat → Prop} {L : List LO} {env : List Value} {w : World} {o : LO} {z ver : Nat} {es : List U} {hv : Value} (ha : AsO o z ver es) (h : ObjR S L env w o hv) :
    o.ver = ver ∧ ((hv = .slice none 0 0 ∧ es = []) ∨ ∃ b cap, hv = .slice (some ⟨b, 0, none⟩) es.length cap) := by
  obtain ⟨hver, _, _, e, h⟩ := ha.own' h
  refine ⟨hver, ?_⟩
  obtain ⟨_, _, ⟨xs, ⟨_, h | ⟨g, cap, cur, rfl, _⟩⟩, _⟩, _⟩ := h
  · exact .inl ⟨h.1, List.eq_nil_of_length_eq_zero h.2⟩
  · exact .inr ⟨g, cap, rfl⟩
theorem Q_len_own {T e : TypeId} {i ver z : Nat} {o : LO} {es : List U} {T' : TypeId} (hx : σ.ev x = .sl i ver) (hL : σ.L[i]? = some o) (ha : AsO o z ver es) (hT : tyE P T = some e) :
    Quiet P A σ ⟨dst, .call { callee := .builtin .len, args := #[x], argTypes := #[T] }, T', pos, af, g⟩ (.d (.i .i64 es.length)) := Quiet.pure fun S env a w hH ho => by
  have h1 := ho x (by simp [Op.operands, Call.operands])
  rw [hx] at h1
  simp only [SVr] at h1
  obtain ⟨hv, o', k1, k2, k3, k5, k4⟩ := h1
  rw [hL] at k2
  obtain rfl := Option.some.inj k2
  obtain ⟨hver, hform⟩ := own_form ha (hH.objs i _ hv hL k1)
  have k6 := k4 hver.symm
  rcases hform with ⟨r1, r2⟩ | ⟨b, cap, r1⟩
  · subst r2
    exact ⟨.int .i64 0, by simp [execOp, resolve, invoke, builtin, Builtin.len_, k6, r1, run_underlying (tyE_und hT), goInt], SVr.int.2 rfl⟩
  · exact ⟨.int .i64 es.length, by simp [execOp, resolve, invoke, builtin, Builtin.len_, k6, r1, run_underlying (tyE_und hT), goInt], SVr.int.2 rfl⟩
/-- An element of an owned array. -/
theorem Q_index_own {T e : TypeId} {i ver z : Nat} {o : LO} {es : List U} {k : IntKind} {n : Int} {gg : Bool} {bs : Nat} (hx : σ.ev x = .sl i ver) (hL : σ.L[i]? = some o) (ha : AsO o z ver es) (hy : σ.ev y = .d (.i k n)) (hT : tyE P T = some e) (he : tyI P e = some (gg, z, bs))
    (hn : 0 ≤ n) (hn2 : n < es.length) : Quiet P A σ ⟨dst, .indexAddr T x y, ty, pos, af, g⟩ (.ep i ver z n.toNat 0) := Quiet.pure fun S env a w hH ho => by
  have h1 := ho x (by simp [Op.operands])
  have h2 := ho y (by simp [Op.operands])
  rw [hy, SVr.int] at h2
  rw [hx] at h1
  simp only [SVr] at h1
  obtain ⟨hv, o', k1, k2, k3, k5, k4⟩ := h1
  rw [hL] at k2
  obtain rfl := Option.some.inj k2
  obtain ⟨hver, hform⟩ := own_form ha (hH.objs i _ hv hL k1)
  have k6 := k4 hver.symm
  rcases hform with ⟨r1, r2⟩ | ⟨b, cap, r1⟩
  · subst r2; simp at hn2; omega
  · refine ⟨.pointer (some ⟨b, n.toNat * z, none⟩), ?_, ?_⟩
    · simp [execOp, Instr.indexAt, h2, k6, r1, asIntOf, run_underlying (tyE_und hT), run_sizeOf he, hn, hn2, Addr.add_lit]
    · simp only [SVr]
      exact ⟨hv, _, k1, hL, by rw [hver]; exact Nat.le_refl _, rfl, fun _ => ⟨b, by rw [r1]; rfl, rfl⟩⟩
theorem Q_field_epo {T : TypeId} {i ver z k off f fo : Nat} {z' : Nat} {o : LO} {es : List U} (hx : σ.ev x = .ep i ver z k off) (hL : σ.L[i]? = some o) (ha : AsO o z' ver es) (hF : tyF P T f = some fo) :
    Quiet P A σ ⟨dst, .fieldAddr T x f, ty, pos, af, g⟩ (.ep i ver z k (off + fo)) := Quiet.pure fun S env a w hH ho => by
  have h1 := ho x (by simp [Op.operands])
  rw [hx] at h1
  simp only [SVr] at h1
  obtain ⟨hv, o', k1, k2, k3, k5, k4⟩ := h1
  rw [hL] at k2
  obtain rfl := Option.some.inj k2
  have hver := (own_form ha (hH.objs i _ hv hL k1)).1
  obtain ⟨b, e1, e2⟩ := k4 hver.symm
  refine ⟨.pointer (some ⟨b, k * z + off + fo, none⟩), by simp only [execOp, e2, Sem.run_bind, tyF_run hF, Result.andThen_ok, Sem.run_pure], ?_⟩
  simp only [SVr]
  exact ⟨hv, _, k1, hL, by rw [hver]; exact Nat.le_refl _, rfl, fun _ => ⟨b, e1, by rw [Nat.add_assoc]⟩⟩
theorem owns_At {w : World} {e z n : Nat} {hv : Value} {xs : List Value} {b : Nat} (h : w.ownsRow 0 e z hv n xs) (hb : blk hv = some b) : At w b 0 xs := by
  rcases h.2 with ⟨rfl, _⟩ | ⟨g, cap, cur, rfl, _, h1, _, _, _, h2⟩
  · simp [blk] at hb
  · simp [blk] at hb
    subst hb
    refine ⟨cur, e, (0, 0), h1, fun j hj => ?_⟩
    rw [← h2] at hj ⊢
    rw [List.getElem?_take]
    simp at hj
    rw [if_pos (by omega)]
    simp
/-- A whole element out of a local array. -/
theorem Q_load_ep {T : TypeId} {i ver z k : Nat} {e' : Nat} {es : List U} {u : U} {gg : Bool} {bs : Nat} (hx : σ.ev x = .ep i ver z k 0) (hL : σ.L[i]? = some (.arr e' z ver es)) (hu : es[k]? = some u) (hT : tyI P T = some (gg, z, bs)) (hg : u.isSt = gg) :
    Quiet P A σ ⟨dst, .load T x, ty, pos, af, g⟩ (.d u) := Quiet.pure fun S env a w hH ho => by
  have h1 := ho x (by simp [Op.operands])
  rw [hx] at h1
  simp only [SVr] at h1
  obtain ⟨hv, o, k1, k2, k3, k5, k4⟩ := h1
  rw [hL] at k2
  obtain rfl := Option.some.inj k2
  obtain ⟨b, e1, e2⟩ := k4 rfl
  obtain ⟨_, hz, xs, h3, h4⟩ := hH.objs i _ hv hL k1
  have h5 := Rds.get es xs k u hz h4 hu
  have hat := owns_At h3 e1
  have huz := hz u (List.mem_of_getElem? hu)
  subst hg
  refine ⟨val u ((xs.drop (k * z)).take z), ?_, ?_⟩
  · obtain ⟨row, e, fz, r1, r2⟩ := hat
    have hl := Rd.length _ _ h5
    rw [huz] at hl
    have := run_loadVar hT w b (k * z) ((xs.drop (k * z)).take z) hl ⟨row, e, fz, r1, fun j hj => ?_⟩ (fun h => by rw [← huz]; exact sz_of_not_st h)
    · simp [execOp, Instr.loadAt, e2, Instr.sureAddr, this, val]
    · rw [hl] at hj
      rw [List.getElem?_take, if_pos hj, List.getElem?_drop]
      have := r2 (k * z + j) (by simp at hl; omega)
      simpa using this
  · simp only [SVr]
    exact ⟨_, rfl, h5⟩
end
end Go.Eng
