/- The engine, part 54: maps that serve as sets of strings; what slices.Concat wants. -/
import Derived.Test.YtiaghdodeinecaaEng53
import Derived.MapKept
import Derived.Lib.AppendZeros
set_option linter.unusedVariables false
set_option linter.unusedSimpArgs false
namespace Go.Eng
open Go Go.RowKit Go.MapKept
/-- A map from strings to booleans. -/
def mapSB (P : Program) (T : TypeId) : Option (TypeId × TypeId) :=
  match P.underlying T with
  | some (.map k e) => match P.underlying k, P.info? e with
    | some .string, some i => match i.zero with
      | some (.bool false) => some (k, e)
      | _ => none
    | _, _ => none
  | _ => none
theorem mapSB_r {P : Program} {T : TypeId} {p : TypeId × TypeId} (h : mapSB P T = some p) : P.underlying T = some (.map p.1 p.2) ∧ P.underlying p.1 = some .string ∧ ∃ i, P.info? p.2 = some i ∧ i.zero = some (.bool false) := by
  unfold mapSB at h
  split at h
  · rename_i k e h1
    split at h
    · rename_i i h2 h3
      split at h
      · rename_i h4
        cases h
        exact ⟨h1, h2, i, h3, h4⟩
      · cases h
    · cases h
  · cases h
theorem str_ne {l l' : List UInt8} : (Value.string ⟨l.toArray⟩ = Value.string ⟨l'.toArray⟩) ↔ l = l' := by
  constructor
  · intro h
    injection h with h
    injection h with h
    simpa using h
  · intro h; rw [h]
section
variable {P : Program} {A : Amb} {σ : St} {K : St → Prop}
variable {ops : Array Oper} {rest : List Oper} {t : Nat} {dst : Option Nat} {g : Option (Nat × Bool)} {ty : TypeId} {pos : String} {af : Array Edge} {x y z : Operand} {sv : SV} {T : TypeId}
/-- make(map..). -/
theorem VO_mkm {fr : List (Nat × SV)} {L L' : List LO} {N i : Nat} (h : VO P A ops rest ⟨(t, .sl i 0) :: fr, L', N⟩ K) (ht : Nat.blt t N = true := by rfl) (hL' : Sn (.set []) L i L' := by repeat constructor) :
    VO P A ops (⟨some t, .makeMap T none, ty, pos, af, none⟩ :: rest) ⟨fr, L, N⟩ K := by
  obtain ⟨hi, hL2⟩ := hL'.spec
  subst hi; subst hL2
  refine VO_step rfl (fun S env a w hH hf hN hd => ?_) h
  obtain ⟨hH', C⟩ := hH.new (w' := w.alloc (.map #[] 0)) (.set []) (.map (some w.heap.size)) (by simp) (fun b hb => heap_alloc_old w _ hb) rfl rfl rfl
    (fun b hb => by simp [LO.ft] at hb; subst hb; simp)
    (fun C => ⟨w.heap.size, #[], 0, rfl, heap_alloc_new w _, by simp, by simp⟩)
  refine ⟨.value (.map (some w.heap.size)), w.alloc (.map #[] 0), ?_, .inl ⟨_, rfl, realz_put hf hN hd ht hH' C ?_⟩⟩
  · simp [execOp, Instr.makeMap]
  · simp only [SVr]
    refine ⟨.map (some w.heap.size), .set [], by rw [← hH.len]; simp, by simp, Nat.le_refl _, rfl, fun _ => rfl⟩
theorem set_at {S : Nat → Prop} {L : List LO} {env : List Value} {w : World} {i : Nat} {ks : List (List UInt8)} {v : Value} (hH : HeapR A S L env w) (hL : L[i]? = some (.set ks)) (h : SVr S L env w (.sl i 0) v) :
    env[i]? = some v ∧ ∃ b ents clock, v = .map (some b) ∧ w.heap[b]? = some (.map ents clock) ∧ (∀ x ∈ ents.toList, (∃ l : List UInt8, x.key = .string ⟨l.toArray⟩) ∧ x.val = .bool true) ∧ ∀ l : List UInt8, l ∈ ks ↔ ∃ x ∈ ents.toList, x.key = .string ⟨l.toArray⟩ := by
  simp only [SVr] at h
  obtain ⟨hv, o, h1, h2, _, _, h3⟩ := h
  rw [hL] at h2
  cases h2
  have := h3 rfl
  subst this
  exact ⟨h1, hH.objs i _ _ hL h1⟩
theorem isKey_str {l : List UInt8} {v : Value} (h : v = .string ⟨l.toArray⟩) : IsKey .string v := by subst h; trivial
/-- Is a string in the set? -/
theorem Q_mlk {i : Nat} {ks : List (List UInt8)} {l : List UInt8} (hT : (mapSB P T).isSome = true := by kernel_rfl) (hx : σ.ev x = .sl i 0 := by rfl) (hL : σ.L[i]? = some (.set ks) := by rfl) (hy : σ.ev y = .d (.s l) := by rfl) :
    Quiet P A σ ⟨dst, .lookup T x y false, ty, pos, af, g⟩ (.d (.b (decide (l ∈ ks)))) := Quiet.pure fun S env a w hH ho => by
  have h1 := ho x (by simp [Op.operands])
  have h2 := ho y (by simp [Op.operands])
  rw [hx] at h1
  rw [hy, SVr.str] at h2
  obtain ⟨he, b, ents, clock, h3, h4, h5, h6⟩ := set_at hH hL h1
  obtain ⟨p, hT⟩ := Option.isSome_iff_exists.1 hT
  obtain ⟨m1, m2, i0, m3, m4⟩ := mapSB_r hT
  obtain ⟨hb, h2⟩ := h2
  have z1 : (zeroValue p.2).run P w = .ok (.bool false) w := by simp [zeroValue, run_typeInfo m3, m4]
  have hk : IsKey .string (a.eval y) := isKey_str h2
  refine ⟨.bool (decide (l ∈ ks)), ?_, SVr.bool.2 rfl⟩
  rcases findNow_spec hk ents.toList 0 (fun x hx => by obtain ⟨⟨l', hl'⟩, _⟩ := h5 x hx; exact isKey_str hl') with ⟨f1, f2⟩ | ⟨j, e, f1, f2, f3⟩
  · have hn : l ∉ ks := fun hm => by
      obtain ⟨x, hx, hxk⟩ := (h6 l).1 hm
      exact f2 x hx (by rw [hxk, h2])
    simp [execOp, h3, Instr.lookup, run_underlying m1, MapKept.run_getObj_map h4, MapKept.run_checkKey m2 hk, MapKept.run_findKey m2 f1, Result.andThen, z1, hn]
  · have hem : e ∈ ents.toList := List.mem_of_getElem? f2
    have hm : l ∈ ks := (h6 l).2 ⟨e, hem, by rw [f3, h2]⟩
    have hv := (h5 e hem).2
    simp [execOp, h3, Instr.lookup, run_underlying m1, MapKept.run_getObj_map h4, MapKept.run_checkKey m2 hk, MapKept.run_findKey m2 f1, Result.andThen, hm, hv]
/-- A string is put into the set. -/
theorem VO_mset {i : Nat} {ks : List (List UInt8)} {l : List UInt8} {fr : List (Nat × SV)} {L L' : List LO} {N : Nat} (h : VO P A ops rest ⟨fr, L', N⟩ K) (hT : (mapSB P T).isSome = true := by kernel_rfl) (hx : (St.mk fr L N).ev x = .sl i 0 := by rfl) (hL : L[i]? = some (.set ks) := by rfl) (hy : (St.mk fr L N).ev y = .d (.s l) := by rfl) (hz : (St.mk fr L N).ev z = .d (.b true) := by rfl)
    (hL' : St1 (.set (ks ++ [l])) i L L' := by repeat constructor) :
    VO P A ops (⟨none, .mapUpdate T x y z, ty, pos, af, none⟩ :: rest) ⟨fr, L, N⟩ K := by
  have := hL'.spec
  subst this
  refine VO_step rfl (fun S env a w hH hf hN hd => ?_) h
  have h1 := Realz.ev hf hH x
  have h2 := Realz.ev hf hH y
  have hz1 := Realz.ev hf hH z
  rw [hx] at h1
  rw [hy, SVr.str] at h2
  rw [hz, SVr.bool] at hz1
  obtain ⟨he, b, ents, clock, h3, h4, h5, h6⟩ := set_at hH hL h1
  obtain ⟨p, hT⟩ := Option.isSome_iff_exists.1 hT
  obtain ⟨m1, m2, m3⟩ := mapSB_r hT
  obtain ⟨hb, h2⟩ := h2
  have hk : IsKey .string (a.eval y) := isKey_str h2
  have key : ∃ es' clock', (Instr.mapUpdate T (.map (some b)) (a.eval y) (a.eval z)).run P w = .ok () { w with heap := w.heap.setIfInBounds b (.map es' clock') } ∧ (∀ x ∈ es'.toList, (∃ l : List UInt8, x.key = .string ⟨l.toArray⟩) ∧ x.val = .bool true) ∧ ∀ l' : List UInt8, l' ∈ ks ++ [l] ↔ ∃ x ∈ es'.toList, x.key = .string ⟨l'.toArray⟩ := by
    rcases findNow_spec hk ents.toList 0 (fun x hx => by obtain ⟨⟨l', hl'⟩, _⟩ := h5 x hx; exact isKey_str hl') with ⟨f1, f2⟩ | ⟨j, e, f1, f2, f3⟩
    · refine ⟨ents.push { key := a.eval y, val := a.eval z, born := clock }, clock + 1, ?_, ?_, ?_⟩
      · simp [Instr.mapUpdate, run_underlying m1, MapKept.run_getObj_map h4, MapKept.run_checkKey m2 hk, MapKept.run_findKey m2 f1, MapKept.run_setObj_map _ h4, Result.andThen]
      · intro x hx
        simp only [Array.toList_push, List.mem_append, List.mem_singleton] at hx
        rcases hx with hx | rfl
        · exact h5 x hx
        · exact ⟨⟨l, h2⟩, hz1⟩
      · intro l'
        simp only [Array.toList_push, List.mem_append, List.mem_singleton]
        constructor
        · rintro (h | rfl)
          · obtain ⟨x, k1, k2⟩ := (h6 l').1 h
            exact ⟨x, .inl k1, k2⟩
          · exact ⟨_, .inr rfl, h2⟩
        · rintro ⟨x, k1 | rfl, k2⟩
          · exact .inl ((h6 l').2 ⟨x, k1, k2⟩)
          · exact .inr (str_ne.1 (by rw [← h2]; exact k2.symm))
    · have hj : ents[j]? = some e := by simpa using f2
      have hmem : ∀ x : MapEntry, x ∈ (ents.modify j fun e => { e with key := a.eval y, val := a.eval z }).toList → x ∈ ents.toList ∨ (x.key = a.eval y ∧ x.val = a.eval z) := by
        intro x hx
        rw [Array.mem_toList_iff, Array.mem_iff_getElem?] at hx
        obtain ⟨m, hm⟩ := hx
        rw [Array.getElem?_modify] at hm
        split at hm
        · cases hq : ents[m]? with
          | none => simp [hq] at hm
          | some e' => simp [hq] at hm; subst hm; exact .inr ⟨rfl, rfl⟩
        · exact .inl (by rw [Array.mem_toList_iff, Array.mem_iff_getElem?]; exact ⟨m, hm⟩)
      have hkeys : (ents.modify j fun e => { e with key := a.eval y, val := a.eval z }).toList.map (·.key) = ents.toList.map (·.key) := modify_keys j _ (fun e' he' => by rw [hj] at he'; cases he'; exact f3.symm)
      refine ⟨ents.modify j fun e => { e with key := a.eval y, val := a.eval z }, clock, ?_, ?_, ?_⟩
      · simp [Instr.mapUpdate, run_underlying m1, MapKept.run_getObj_map h4, MapKept.run_checkKey m2 hk, MapKept.run_findKey m2 f1, hj, f3, run_keyThatStays hk, MapKept.run_setObj_map _ h4, Result.andThen]
      · intro x hx
        rcases hmem x hx with hx | ⟨k1, k2⟩
        · exact h5 x hx
        · exact ⟨⟨l, by rw [k1]; exact h2⟩, by rw [k2]; exact hz1⟩
      · have hin : ∀ (l' : List UInt8), (∃ x ∈ (ents.modify j fun e => { e with key := a.eval y, val := a.eval z }).toList, x.key = .string ⟨l'.toArray⟩) ↔ ∃ x ∈ ents.toList, x.key = .string ⟨l'.toArray⟩ := by
          intro l'
          have q1 : ∀ (L : List MapEntry), (∃ x ∈ L, x.key = .string ⟨l'.toArray⟩) ↔ Value.string ⟨l'.toArray⟩ ∈ L.map (·.key) := fun L => by
            simp only [List.mem_map]
          rw [q1, q1, hkeys]
        intro l'
        rw [hin l', ← h6 l']
        simp only [List.mem_append, List.mem_singleton]
        constructor
        · rintro (h | rfl)
          · exact h
          · exact (h6 l').2 ⟨e, List.mem_of_getElem? f2, by rw [f3, h2]⟩
        · exact .inl
  obtain ⟨es', clock', hrun, p1, p2⟩ := key
  have hlt : b < w.heap.size := (Array.getElem?_eq_some_iff.1 h4).1
  obtain ⟨hH', C⟩ := hH.turnF (w' := { w with heap := w.heap.setIfInBounds b (.map es' clock') }) i _ (.set (ks ++ [l])) _ hL rfl he rfl
    (by simp) (fun k hk => (heap_set h4).2 k (fun e => hk (by subst e; exact h3))) rfl rfl rfl (fun k hk => hk)
    (fun C => ⟨b, es', clock', h3, (heap_set h4).1, p1, p2⟩)
  refine ⟨.skip, _, ?_, .inr ⟨rfl, realz_put_none hf hN hd hH' C⟩⟩
  simp [execOp, h3, hrun]
/-- cap(nil). -/
theorem Q_capn {T' e : TypeId} [TE P T e] (hx : σ.ev x = .nilsl := by rfl) : QR P σ ⟨dst, .call { callee := .builtin .cap, args := #[x], argTypes := #[T] }, T', pos, af, g⟩ (.d (.i .i64 0)) :=
  fun A fr' L' he _ => Quiet.pure fun S env a w hH ho => by
    have h1 := ho x (by simp [Op.operands, Call.operands])
    rw [he x (by simp [Op.operands, Call.operands]), hx] at h1
    simp only [SVr] at h1
    have hT : P.underlying T = some (.slice e) := tyE_und TE.h
    exact ⟨.int .i64 0, by simp [execOp, resolve, invoke, builtin, h1, Builtin.cap_, run_underlying hT, goInt], SVr.int.2 rfl⟩
/-- nil[:0]. -/
theorem Q_sln {e : TypeId} {gg : Bool} {zz bs : Nat} [TE P T e] [TI P e gg zz bs] (hx : σ.ev x = .nilsl := by rfl) (hy : σ.ev y = .d (.i .i64 0) := by rfl) : QR P σ ⟨dst, .slice T x none (some y) none, ty, pos, af, g⟩ .nilsl :=
  fun A fr' L' he _ => Quiet.pure fun S env a w hH ho => by
    have h1 := ho x (by simp [Op.operands])
    have h2 := ho y (by simp [Op.operands])
    rw [he x (by simp [Op.operands]), hx] at h1
    rw [he y (by simp [Op.operands]), hy, SVr.int] at h2
    simp only [SVr] at h1
    have hT : P.underlying T = some (.slice e) := tyE_und TE.h
    have hel : P.elem T = e := by simp [Program.elem, hT]
    have hT' : P.underlying T = some (.slice (P.elem T)) := by rw [hel]; exact hT
    have hrun := run_slice_h (w := w) T none 0 0 hT' .i64 0 (Int.le_refl _) (by simp)
    have hsz := run_sizeOf (w := w) (TI.h : tyI P e = some (gg, zz, bs))
    rw [hel, hsz] at hrun
    simp only [Result.andThen] at hrun
    refine ⟨.slice none 0 0, ?_, by simp only [SVr]⟩
    simp [execOp, h1, h2, Instr.sliceAt, run_underlying hT, hrun, sliced]
def tyN (P : Program) (T : TypeId) : Option IntKind :=
  match P.underlying T with
  | some (.int k) => some k
  | _ => none
theorem tyN_r {T : TypeId} {k : IntKind} (h : tyN P T = some k) : P.underlying T = some (.int k) := by
  unfold tyN at h
  split at h
  · rename_i h1; cases h; exact h1
  · cases h
theorem zero_row (v : Value) (n : Nat) : (Builtin.zeroCells #[v] n).toList = List.replicate n v := by
  apply List.ext_getElem
  · simp [Builtin.zeroCells]
  · intro i h1 h2
    simp [Builtin.zeroCells, Nat.mod_one]
theorem Trs_rep (w : World) (n : Nat) : Trs w (List.replicate n (.s [])) (List.replicate n (Value.string ⟨#[]⟩)) := by
  induction n with
  | zero => simp [Trs]
  | succ n ih =>
    simp only [List.replicate_succ, Trs, U.sz]
    refine ⟨?_, ih⟩
    simp [Tr, big_eq]
theorem eStrs_rep (n : Nat) : eStrs (List.replicate n []) = List.replicate n (.s []) := by
  induction n with
  | zero => rfl
  | succ n ih => simp only [List.replicate_succ, eStrs, ih]
theorem fps_rep (w : World) (n : Nat) (cs : List Value) : U.fps w (List.replicate n (.s [])) cs = [] := by
  induction n generalizing cs with
  | zero => rfl
  | succ n ih => simp only [List.replicate_succ, U.fps, U.fp, List.nil_append]; exact ih _
/-- append(nil, make([]string, n)...). -/
theorem VO_apz {T2 T' : TypeId} {n : Int} (hn : 0 < n ∧ n ≤ 4294967296) {fr : List (Nat × SV)} {L L' : List LO} {N i : Nat} {e bs : Nat} {gg : Bool} [TE P T e] [TI P e gg 1 bs] [TZ P e [.string ⟨#[]⟩]] (h : VO P A ops rest ⟨(t, .sl i 0) :: fr, L', N⟩ K)
    (hb : Nat.ble bs 32768 = true := by rfl) (hT2 : (tyN P T2).isSome = true := by kernel_rfl) (hx : (St.mk fr L N).ev x = .nilsl := by rfl) (hy : (St.mk fr L N).ev y = .d (.i .i64 n) := by rfl) (ht : Nat.blt t N = true := by rfl) (hL' : Sn (.own e 1 0 (eStrs (List.replicate n.toNat []))) L i L' := by repeat constructor) :
    VO P A ops (⟨some t, .call { callee := .builtin .append, args := #[x, y], argTypes := #[T, T2] }, T', pos, af, none⟩ :: rest) ⟨fr, L, N⟩ K := by
  obtain ⟨hi, hL2⟩ := hL'.spec
  subst hi; subst hL2
  refine VO_step rfl (fun S env a w hH hf hN hd => ?_) h
  have h1 := Realz.ev hf hH x
  have h2 := Realz.ev hf hH y
  rw [hx] at h1
  rw [hy, SVr.int] at h2
  simp only [SVr] at h1
  obtain ⟨m, rfl⟩ : ∃ m : Nat, n = m := ⟨n.toNat, by omega⟩
  have hbs := Nat.le_of_ble_eq_true hb
  obtain ⟨kn, hT2⟩ := Option.isSome_iff_exists.1 hT2
  obtain ⟨i0, q1, q2, q3⟩ := tyI_info (TI.h : tyI P e = some (gg, 1, bs))
  obtain ⟨zv, q4, q5⟩ : ∃ zv, i0.zero = some zv ∧ zv.cells.toList = [.string ⟨#[]⟩] := by
    have hz : tyZ P e = some [.string ⟨#[]⟩] := TZ.h
    unfold tyZ at hz
    rw [q1] at hz
    simp only at hz
    cases hzz : i0.zero with
    | none => rw [hzz] at hz; cases hz
    | some zv => rw [hzz] at hz; exact ⟨zv, rfl, by simpa using hz⟩
  have q6 : zv.cells = #[.string ⟨#[]⟩] := by rw [← Array.toList_inj, q5]
  have hmb : m * i0.bytes ≤ 4294967296 * 32768 := Nat.mul_le_mul (by omega) (by omega)
  have hrun := Lib.run_append_nil_zeros (P := P) w T T2 T' e i0 zv .i64 kn (tyE_und TE.h) (tyN_r hT2) q1 q4 m (by omega) (by omega) (by omega) (by omega)
  rw [q6] at hrun
  have hge := grownCap_ge w m 0 e
  have hle := grownCap_le_maxLen w m 0 e (by unfold maxLen; omega)
  generalize hG : grownCap w m 0 e = G at *
  let row : Array Value := Builtin.zeroCells #[.string ⟨#[]⟩] m ++ Builtin.zeroCells #[.string ⟨#[]⟩] (G - m)
  have hrow : row.toList = List.replicate m (.string ⟨#[]⟩) ++ List.replicate (G - m) (.string ⟨#[]⟩) := by simp [row, zero_row]
  have hown : (w.drew.alloc (.cells row e)).ownsRow 0 e 1 (.slice (some ⟨w.heap.size, 0, none⟩) m G) m (List.replicate m (.string ⟨#[]⟩)) := by
    refine ⟨by simp, .inr ⟨w.heap.size, G, row, rfl, Nat.zero_le _, ?_, hge, hle, ?_, ?_⟩⟩
    · have := heap_alloc_new w.drew (.cells row e)
      exact this
    · have : row.size = row.toList.length := by simp
      rw [this, hrow]
      simp
      omega
    · rw [hrow]; simp
  have hfp : (U.sl 1 (List.replicate m (.s []))).fp (w.drew.alloc (.cells row e)) [.slice (some ⟨w.heap.size, 0, none⟩) m G] = [w.heap.size] := by
    simp only [U.fp, fps_rep]
  have hps : (w.drew.alloc (.cells row e)).heap.size = w.heap.size + 1 := by
    have : (w.drew.alloc (.cells row e)).heap = w.heap.push (.cells row e) := rfl
    rw [this, Array.size_push]
  obtain ⟨hH', C⟩ := hH.new (w' := w.drew.alloc (.cells row e)) (.own e 1 0 (List.replicate m (.s []))) (.slice (some ⟨w.heap.size, 0, none⟩) m G) (by rw [hps]; omega) (fun b hb => heap_alloc_old w.drew _ hb) rfl rfl rfl
    (fun b hb => by
      simp only [LO.ft] at hb
      rw [hfp] at hb
      simp only [List.mem_singleton] at hb
      subst hb
      rw [hps]
      omega)
    (fun C => ⟨by simp [big_eq]; omega, by intro u hu; rw [List.eq_of_mem_replicate hu]; rfl, ⟨_, by rw [List.length_replicate]; exact hown, Trs_rep _ _⟩, by rw [hfp]; simp⟩)
  have hnn : ((m : Int)).toNat = m := by simp
  rw [hnn, eStrs_rep]
  refine ⟨.value (.slice (some ⟨w.heap.size, 0, none⟩) m G), _, ?_, .inl ⟨_, rfl, realz_put hf hN hd ht hH' C ?_⟩⟩
  · simp [execOp, resolve, invoke, builtin, h1, h2, hrun, row]
  · simp only [SVr]
    exact ⟨.slice (some ⟨w.heap.size, 0, none⟩) m G, .own e 1 0 (List.replicate m (.s [])), by rw [← hH.len]; simp, by simp, Nat.le_refl _, rfl, fun _ => rfl⟩
/-- The empty first part of a slice of the call's own. -/
theorem VO_cut {fr : List (Nat × SV)} {L L' : List LO} {N i zz ver : Nat} {es : List U} {e bs : Nat} {gg : Bool} [TE P T e] [TI P e gg zz bs] (h : VO P A ops rest ⟨(t, .sl i (ver + 1)) :: fr, L', N⟩ K)
    (hx : (St.mk fr L N).ev x = .sl i ver := by rfl) (hL : L[i]? = some (.own e zz ver es) := by rfl) (hy : (St.mk fr L N).ev y = .d (.i .i64 0) := by rfl) (ht : Nat.blt t N = true := by rfl) (hL' : St1 (.own e zz (ver + 1) []) i L L' := by repeat constructor) :
    VO P A ops (⟨some t, .slice T x none (some y) none, ty, pos, af, none⟩ :: rest) ⟨fr, L, N⟩ K := by
  have := hL'.spec
  subst this
  refine VO_step rfl (fun S env a w hH hf hN hd => ?_) h
  have h1 := Realz.ev hf hH x
  have h2 := Realz.ev hf hH y
  rw [hx] at h1
  rw [hy, SVr.int] at h2
  simp only [SVr] at h1
  obtain ⟨hv, o, k1, k2, _, _, k3⟩ := h1
  rw [hL] at k2
  cases k2
  have hxe := k3 rfl
  have hob := hH.objs i _ hv hL k1
  obtain ⟨o1, o2, ⟨xs, o3, o4⟩, o5⟩ := hob
  have hi := (List.getElem?_eq_some_iff.1 hL).1
  have hie : i < env.length := by rw [hH.len]; exact hi
  have hT : P.underlying T = some (.slice e) := tyE_und TE.h
  have hel : P.elem T = e := by simp [Program.elem, hT]
  have hT' : P.underlying T = some (.slice (P.elem T)) := by rw [hel]; exact hT
  have hsz := run_sizeOf (w := w) (TI.h : tyI P e = some (gg, zz, bs))
  have form : ∃ base cap, hv = .slice base es.length cap ∧ (Instr.slice T hv none (some (.int .i64 0)) none).run P w = .ok (.slice base 0 cap) w ∧ (base = none ∧ cap = 0 ∨ ∃ g cur, base = some ⟨g, 0, none⟩ ∧ w.heap[g]? = some (.cells cur e (0, 0)) ∧ cap ≤ maxLen ∧ cur.size = cap * zz ∧ g ∈ (U.sl zz es).fp w [hv]) := by
    rcases o3.2 with ⟨rfl, h0⟩ | ⟨g, cap, cur, rfl, _, r1, r2, r3, r4, r5⟩
    · refine ⟨none, 0, by rw [h0], ?_, .inl ⟨rfl, rfl⟩⟩
      have hrun := run_slice_h (w := w) T none 0 0 hT' .i64 0 (Int.le_refl _) (by simp)
      rw [hel, hsz] at hrun
      simp only [Result.andThen] at hrun
      rw [hrun]
      simp [sliced]
    · refine ⟨some ⟨g, 0, none⟩, cap, rfl, ?_, .inr ⟨g, cur, rfl, r1, r3, r4, by simp [U.fp]⟩⟩
      have hrun := run_slice_h (w := w) T (some ⟨g, 0, none⟩) es.length cap hT' .i64 0 (Int.le_refl _) (by omega)
      rw [hel, hsz] at hrun
      simp only [Result.andThen] at hrun
      rw [hrun]
      simp [sliced, Addr.add_lit]
  obtain ⟨base, cap, f1, f2, f3⟩ := form
  obtain ⟨hH', C⟩ : HeapR A S (L.set i (.own e zz (ver + 1) [])) (env.set i (.slice base 0 cap)) w ∧ Carry S L env w S (L.set i (.own e zz (ver + 1) [])) (env.set i (.slice base 0 cap)) w := by
    refine hH.eat [] i _ (.slice base 0 cap) (by rw [List.length_set, List.length_set]; exact hH.len) (fun j hj => ?_) (List.getElem?_set_self hi) (fun j hj => List.getElem?_set_ne (fun e => hj e.symm)) (List.getElem?_set_self hie) (fun _ _ _ => rfl) (fun o hv1 h1 h2 => ?_) (Nat.le_refl _) rfl rfl rfl (fun k hk => ?_) (fun C => ?_)
    · rw [List.getElem?_set_ne (fun e => hj e.symm)]
      simp
    · rw [hL] at h1; rw [k1] at h2
      cases h1; cases h2
      refine ⟨Nat.le_succ _, fun h => absurd h (by simp [LO.ver]), fun b hb => ?_⟩
      rw [f1] at hb
      cases hb
    · rcases f3 with ⟨rfl, rfl⟩ | ⟨g, cur, rfl, r1, r2, r3, r4⟩
      · simp [LO.ft, U.fp] at hk
      · simp [LO.ft, U.fp, U.fps] at hk
        subst hk
        exact ⟨(Array.getElem?_eq_some_iff.1 r1).1, .inr ⟨i, _, hv, .inl rfl, hL, rfl, k1, r4⟩⟩
    · rcases f3 with ⟨rfl, rfl⟩ | ⟨g, cur, rfl, r1, r2, r3, r4⟩
      · exact ⟨by simp [big_eq], by simp, ⟨[], World.ownsRow_nil w 0 e zz, by simp [Trs]⟩, by simp [U.fp]⟩
      · exact ⟨by simp [big_eq], by simp, ⟨[], ⟨by simp, .inr ⟨g, cap, cur, rfl, Nat.zero_le _, r1, Nat.zero_le _, r2, r3, by simp⟩⟩, by simp [Trs]⟩, by simp [U.fp, U.fps]⟩
  refine ⟨.value (.slice base 0 cap), w, ?_, .inl ⟨_, rfl, realz_put hf hN hd ht hH' C ?_⟩⟩
  · have hxe' : a.eval x = .slice base es.length cap := by rw [hxe, f1]
    rw [f1] at f2
    simp [execOp, hxe', h2, Instr.sliceAt, run_underlying hT, f2]
  · simp only [SVr]
    exact ⟨.slice base 0 cap, _, List.getElem?_set_self hie, List.getElem?_set_self hi, Nat.le_refl _, rfl, fun _ => rfl⟩
end
section
variable {P : Program} {σ : St} {dst : Option Nat} {ty T : TypeId} {pos : String} {af : Array Edge} {g : Option (Nat × Bool)} {x y h : Operand}
end
section
variable {P : Program} {σ : St}
end
def eLstring (l : List (List UInt8)) : U := .sl 1 (eStrs l)
def eLstrings : List (List (List UInt8)) → List U
  | [] => []
  | a :: l => .sl 1 (eStrs a) :: eLstrings l
instance : Enc (List (List UInt8)) eLstring eLstrings 1 := ⟨fun l => by induction l with | nil => rfl | cons a l ih => simp [eLstrings, ih, eLstring], fun _ => rfl⟩
theorem gLstring {l : List (List (List UInt8))} {k : Nat} {x : List (List UInt8)} (h : l[k]? = some x) : (eLstrings l)[k]? = some (.sl 1 (eStrs x)) := Enc.get h
section
variable {P : Program} {A : Amb} {ops : Array Oper} {K : St → Prop} {r : List (Nat × Bool)} {pf : PF} {fr : List (Nat × SV)} {L L' : List LO} {N i t : Nat} {sv : SV}
variable {ty : TypeId} {pos : String} {af : Array Edge}
theorem VY_and (hp : PfOk ops i L' pf) (h : VY P A ops K r pf ⟨(t, sv) :: fr, L', N⟩) : PfOk ops i L' pf ∧ VY P A ops K r pf ⟨(t, sv) :: fr, L', N⟩ := ⟨hp, h⟩
/-- A call that hands objects over and may end in several ways, in a region that draws its order. -/
theorem VY_cGE {f : Operand} {fi : Nat} {caps : List SV} {args : Array Operand} {at_ : Array TypeId} {cargs : List SV} {Lc : List LO} {Q : SV → List LO → Prop} (js : List Nat) (hspec : Spec P fi cargs Lc Q)
    (h : ∀ sv Lo, Q sv Lo → PfOk ops i (putA js (Lo.map (LO.ren (rn js L.length))) L) pf ∧ VY P A ops K r pf ⟨(t, sv.ren (rn js L.length)) :: fr, putA js (Lo.map (LO.ren (rn js L.length))) L, N⟩)
    (hi : ops[i]? = some ⟨some t, .call { callee := .value f, args := args, argTypes := at_ }, ty, pos, af, none⟩ := by rfl)
    (hf : (St.mk fr L N).ev f = .fn fi caps := by rfl) (hp : pickB L (rn js L.length) 0 Lc := by ((repeat (first | exact trivial | exact rfl | refine And.intro ?_ ?_)); first | done | fail))
    (hjs : (decide js.Nodup && (js.all fun j => Nat.blt j L.length) && js.length == Lc.length && LO.lts Lc.length Lc) = true := by rfl)
    (hargs : AGs L (rn js L.length) Lc.length (args.toList.map (St.mk fr L N).ev ++ caps) cargs := by ((repeat (first | exact trivial | exact .inl ⟨rfl, rfl⟩ | exact .inr ⟨_, rfl, by ((repeat (first | exact trivial | exact rfl | exact ⟨_, rfl⟩ | refine And.intro ?_ ?_)); first | done | fail)⟩ | refine And.intro ?_ ?_)); first | done | fail))
    (ht : Nat.blt t N = true := by rfl) : VY P A ops K ((i, false) :: r) pf ⟨fr, L, N⟩ := by
  refine ⟨_, fun s l => ∃ sv Lo, Q sv Lo ∧ s = sv.ren (rn js L.length) ∧ l = putA js (Lo.map (LO.ren (rn js L.length))) L, hi, ?_, ?_⟩
  · intro fr' he K' hK
    have hm : args.toList.map (St.mk fr' L N).ev = args.toList.map (St.mk fr L N).ev := List.map_congr_left fun x hx => he x (by simp only [Op.operands, Call.operands]; simp; exact .inr (by simpa using hx))
    refine VO_cG (caps := caps) js hspec ?_ (by rw [he f (by simp [Op.operands, Call.operands])]; exact hf) hp hjs (by rw [hm]; exact hargs) ht
    intro sv Lo hq
    exact VO_nil (hK _ _ ⟨sv, Lo, hq, rfl, rfl⟩)
  · rintro _ _ ⟨sv, Lo, hq, rfl, rfl⟩
    obtain ⟨h1, h2⟩ := h sv Lo hq
    exact ⟨h1.ok, h2⟩
/-- A call that results in data, taken like an operation that is not quiet. -/
theorem VY_clh {f : Operand} {fi : Nat} {caps : List SV} {args : Array Operand} {at_ : Array TypeId} {dargs : List SV} {us : List U} (hspec : SpecP P fi dargs us) (hv : VY P A ops K r pf ⟨(t, mkR us) :: fr, L, N⟩)
    (hi : ops[i]? = some ⟨some t, .call { callee := .value f, args := args, argTypes := at_ }, ty, pos, af, none⟩ := by rfl) (hf : (St.mk fr L N).ev f = .fn fi caps := by rfl)
    (hargs : VAs L (args.toList.map (St.mk fr L N).ev ++ caps) dargs := by ((repeat (first | exact trivial | exact rfl | exact ⟨_, rfl⟩ | exact (‹∀ n, SV.lts n _ = true› _) | refine And.intro ?_ ?_)); first | done | fail))
    (ht : Nat.blt t N = true := by rfl) (hp : PfOk ops i L pf := by (repeat (first | exact PfOk.nil | (apply PfOk.keep; focus ((repeat constructor); done)) | (apply PfOk.dep; focus kernel_rfl)))) : VY P A ops K ((i, false) :: r) pf ⟨fr, L, N⟩ := by
  refine VY_hst hi (fun fr' he K' hK => ?_) hp hv
  have hm : args.toList.map (St.mk fr' L N).ev = args.toList.map (St.mk fr L N).ev := List.map_congr_left fun x hx => he x (by simp only [Op.operands, Call.operands]; simp; exact .inr (by simpa using hx))
  exact VO_q (Q_call (by rw [he f (by simp [Op.operands, Call.operands])]; exact hf) hspec (by simp only; rw [hm]; exact hargs)) ht (VO_nil hK)
end
end Go.Eng
set_option linter.unusedVariables false
set_option linter.unusedSimpArgs false
namespace Go.Eng
open Go Go.RowKit
theorem arr_own_r {w : World} {S : Nat → Prop} {L : List LO} {env : List Value} {e z ver : Nat} {es : List U} {hv : Value} (hn : U.noSls es = true) (h : ObjR S L env w (.arr e z ver es) hv) : (∀ S' L' env', ObjR S' L' env' w (.own e z ver es) hv) ∧ ∀ b, (LO.own e z ver es).ft w hv b ↔ (LO.arr e z ver es).ft w hv b := by
  obtain ⟨h1, h2, xs, h3, h4⟩ := h
  obtain ⟨k1, k2⟩ := Rds.tr (w' := w) _ _ hn h4
  have hf := fp_own h2 h3
  constructor
  · intro S' L' env'
    refine ⟨h1, h2, ⟨xs, h3, k1⟩, ?_⟩
    rcases hf with ⟨_, _, hf⟩ | ⟨g, cap, _, hf⟩
    · rw [hf]; exact List.nodup_nil
    · rw [hf, k2]; simp
  · intro b
    simp only [LO.ft]
    rcases hf with ⟨rfl, _, hf⟩ | ⟨g, cap, rfl, hf⟩
    · rw [hf]; simp [blk]
    · rw [hf, k2]; simp [blk, eq_comm]
section
variable {P : Program} {A : Amb} {σ : St} {K : St → Prop} {Q : Exit → St → Prop} {ops : Array Oper} {rest : List Oper} {r : List (Nat × Bool)} {pf : PF}
theorem Realz.arrOwn {a : Act} {w : World} {fr : List (Nat × SV)} {L : List LO} {N i e z ver : Nat} {es : List U} (hL : L[i]? = some (.arr e z ver es)) (hn : U.noSls es = true) (h : Realz A ⟨fr, L, N⟩ a w) : Realz A ⟨fr, L.set i (.own e z ver es), N⟩ a w := by
  obtain ⟨S, env, hH, hf, hN, hd⟩ := h
  have hi := (List.getElem?_eq_some_iff.1 hL).1
  obtain ⟨hv, hhv⟩ : ∃ hv, env[i]? = some hv := ⟨_, List.getElem?_eq_getElem (by rw [hH.len]; exact hi)⟩
  have hob := hH.objs i _ hv hL hhv
  obtain ⟨hH', C⟩ : HeapR A S (L.set i (.own e z ver es)) env w ∧ Carry S L env w S (L.set i (.own e z ver es)) env w := by
    refine hH.eat [] i _ hv (by rw [List.length_set]; exact hH.len) (fun j hj => ?_) (List.getElem?_set_self hi) (fun _ _ => rfl) hhv (fun _ _ _ => rfl) (fun o hv1 h1 h2 => ?_) (Nat.le_refl _) rfl rfl rfl (fun k hk => ?_) (fun C => (arr_own_r hn hob).1 _ _ _)
    · rw [List.getElem?_set_ne (fun e => hj e.symm)]
      simp
    · rw [hL] at h1; rw [hhv] at h2
      cases h1; cases h2
      exact ⟨Nat.le_refl _, fun _ => rfl, fun _ _ => rfl⟩
    · have := ((arr_own_r hn hob).2 k).1 hk
      exact ⟨(hH.excl i _ hv k hL rfl hhv this).2.2, .inr ⟨i, _, hv, .inl rfl, hL, rfl, hhv, this⟩⟩
  exact ⟨S, env, hH', fun t => SVr.carry C _ _ (hf t), hN, hd⟩
theorem VO_ao {fr : List (Nat × SV)} {L L' : List LO} {N e z ver : Nat} {es : List U} (i : Nat) (h : VO P A ops rest ⟨fr, L', N⟩ K) (hL : L[i]? = some (.arr e z ver es) := by rfl) (hn : U.noSls es = true := by first | exact eStrs_noSl _ | exact eInts_noSl _) (hL' : St1 (.own e z ver es) i L L' := by repeat constructor) : VO P A ops rest ⟨fr, L, N⟩ K := by
  have := hL'.spec
  subst this
  exact fun R hR a w hr => h R hR a w (hr.arrOwn hL hn)
theorem VY_ao {fr : List (Nat × SV)} {L L' : List LO} {N e z ver j : Nat} {es : List U} (i : Nat) (hL : L[i]? = some (.arr e z ver es)) (hL' : L.set i (.own e z ver es) = L') (hn : U.noSls es = true) (h : VY P A ops K ((j, false) :: r) pf ⟨fr, L', N⟩) : VY P A ops K ((j, false) :: r) pf ⟨fr, L, N⟩ := by
  subst hL'
  obtain ⟨o, Z, h1, h2, h3⟩ := h
  exact ⟨o, Z, h1, fun fr' he K' hK R hR a w hr => h2 fr' he K' hK R hR a w (hr.arrOwn hL hn), h3⟩
end
end Go.Eng
set_option linter.unusedVariables false
set_option linter.unusedSimpArgs false
namespace Go.Eng
open Go Go.RowKit
section
variable {P : Program} {A : Amb} {σ : St} {K : St → Prop} {Q : Exit → St → Prop}
variable {ops : Array Oper} {rest : List Oper} {t : Nat} {ty : TypeId} {pos : String} {af : Array Edge} {x y : Operand} {sv : SV} {dst : Option Nat} {g : Option (Nat × Bool)}
/-- A field of an element is stored. -/
theorem VO_storeAm {T : TypeId} {gg : Bool} {i ver z k off e bs zu : Nat} {es pre post : List U} {old u : U} {fr : List (Nat × SV)} {L L' : List LO} {N : Nat} (hx : (St.mk fr L N).ev x = .ep i ver z k off) (hL : L[i]? = some (.arr e z ver es)) (hk : es[k]? = some (.st (pre ++ old :: post))) (hoff : U.szs pre = off)
    (hy : VD L ((St.mk fr L N).ev y) u) (hT : tyI P T = some (gg, zu, bs)) (hu : u.sz = zu) (hou : old.sz = zu) (hL' : L.set i (.arr e z ver (es.set k (.st (pre ++ u :: post)))) = L')
    (h : VO P A ops rest ⟨fr, L', N⟩ K) :
    VO P A ops (⟨none, .store T x y, ty, pos, af, none⟩ :: rest) ⟨fr, L, N⟩ K := by
  subst hL'
  refine VO_step rfl (fun S env a w hH hf hN hd => ?_) h
  have h1 := Realz.ev hf hH x
  have h2 := VD.r hH hy (Realz.ev hf hH y)
  rw [hx] at h1
  simp only [SVr] at h1 h2
  obtain ⟨hv, o, k1, k2, k3, k5, k4⟩ := h1
  rw [hL] at k2
  obtain rfl := Option.some.inj k2
  obtain ⟨b, e1, e2⟩ := k4 rfl
  obtain ⟨hbg, hz, xs, m1, m2⟩ := hH.objs i _ hv hL k1
  obtain ⟨cs, c1, c2⟩ := h2
  have hcl := Rd.length _ _ c2
  rw [hu] at hcl
  rcases m1.2 with ⟨rfl, _⟩ | ⟨g, cap, cur, rfl, hg0, hg, hnc, hcm, hcs, htake⟩
  · simp [blk] at e1
  simp only [blk, Option.some.injEq] at e1
  subst e1
  have hk' : k < es.length := (List.getElem?_eq_some_iff.1 hk).1
  have h5 := Rds.get es xs k _ hz m2 hk
  simp only [Rd] at h5
  obtain ⟨p1, p23, hxs, h6, h8⟩ := Rds.split pre (old :: post) _ h5
  obtain ⟨p2, p3, hp23, h7, h9⟩ := Rds.split [old] post _ h8
  subst hp23
  have hp3 := Rds.length _ _ h9
  have hp1 := Rds.length _ _ h6
  have hp2 := Rds.length _ _ h7
  simp only [U.szs, Nat.add_zero, hou] at hp2
  have hzz : (U.st (pre ++ old :: post)).sz = z := hz _ (List.mem_of_getElem? hk)
  have hszapp : ∀ (us vs : List U), U.szs (us ++ vs) = U.szs us + U.szs vs := by
    intro us vs
    induction us with
    | nil => simp [U.szs]
    | cons a us ih => simp only [List.cons_append, U.szs, ih]; omega
  have hzo : z = off + zu + U.szs post := by
    simp only [U.sz, hszapp, U.szs, hou, hoff] at hzz
    omega
  have hkz : (k + 1) * z ≤ es.length * z := Nat.mul_le_mul_right _ hk'
  have hcap : es.length * z ≤ cap * z := Nat.mul_le_mul_right _ hnc
  have hkz1 : (k + 1) * z = k * z + z := by rw [Nat.add_mul]; omega
  have hxl := m1.1
  have hst := run_storeCells_at P g (k * z + off) e cs 0 cur w hg (by omega) (Rd.oneCell _ _ c2)
  rw [Nat.add_zero, hcl] at hst
  -- the same as storing the whole element
  have hel : (xs.drop (k * z)).take z = p1 ++ (p2 ++ p3) := hxs
  have hcurk : (cur.toList.drop (k * z)).take z = p1 ++ (p2 ++ p3) := by
    rw [← hel, ← htake, List.drop_take, List.take_take, Nat.min_eq_left (by omega)]
  have hsplit : cur.toList = cur.toList.take (k * z) ++ (p1 ++ (p2 ++ (p3 ++ cur.toList.drop (k * z + z)))) := by
    conv => lhs; rw [← List.take_append_drop (k * z) cur.toList, ← List.take_append_drop z (cur.toList.drop (k * z)), hcurk, List.drop_drop]
    simp
  have hTl : (cur.toList.take (k * z)).length = k * z := by rw [List.length_take, Array.length_toList]; omega
  have hnew : cur.toList.take (k * z + off) ++ cs ++ cur.toList.drop (k * z + off + zu) = cur.toList.take (k * z) ++ (p1 ++ (cs ++ p3)) ++ cur.toList.drop (k * z + z) := by
    generalize hA1 : cur.toList.take (k * z) = A1 at hsplit hTl
    generalize hD1 : cur.toList.drop (k * z + z) = D1 at hsplit
    have e3 : (A1 ++ (p1 ++ (p2 ++ (p3 ++ D1)))).take (k * z + off) = A1 ++ p1 := by
      rw [← List.append_assoc, List.take_left' (by simp only [List.length_append]; omega)]
    have e4 : (A1 ++ (p1 ++ (p2 ++ (p3 ++ D1)))).drop (k * z + off + zu) = p3 ++ D1 := by
      rw [← List.append_assoc, ← List.append_assoc, List.drop_left' (by simp only [List.length_append]; omega)]
    rw [hsplit, e3, e4]
    simp
  rw [hnew] at hst
  have hpl : (p1 ++ (cs ++ p3)).length = z := by simp only [List.length_append]; omega
  have hrd : Rd S w (.st (pre ++ u :: post)) (p1 ++ (cs ++ p3)) := by
    simp only [Rd]
    exact Rds.append pre p1 (u :: post) (cs ++ p3) h6 (Rds.append [u] cs post p3 (by simp only [Rds]; exact ⟨cs, [], by simp, c2, rfl⟩) h9)
  have hus : (U.st (pre ++ u :: post)).sz = z := by simp only [U.sz, hszapp, U.szs]; omega
  have hrow := setRow_heap w g cur ((cur.toList.take (k * z) ++ (p1 ++ (cs ++ p3)) ++ cur.toList.drop (k * z + z)).toArray) e (0, 0) hg
  obtain ⟨hH', C⟩ := hH.turn (w' := w.setRow g (cur.toList.take (k * z) ++ (p1 ++ (cs ++ p3)) ++ cur.toList.drop (k * z + z)).toArray) i _ (.arr e z ver (es.set k (.st (pre ++ u :: post)))) _ g hL rfl k1 rfl rfl rfl
    (setRow_size _ _ _) (fun k hk => setRow_other w g k _ hk) rfl rfl rfl
    (fun C => ⟨by simpa using hbg, fun v hv => by
        rcases List.mem_or_eq_of_mem_set hv with hv | rfl
        · exact hz v hv
        · exact hus,
      xs.take (k * z) ++ (p1 ++ (cs ++ p3)) ++ xs.drop ((k + 1) * z), ⟨by simp only [List.length_append, List.length_take, List.length_drop, List.length_set, hxl] at hpl ⊢; omega, .inr ⟨g, cap, _, by simp, hg0, hrow, by simpa using hnc, hcm, by simp only [List.size_toArray, List.length_append, List.length_take, List.length_drop, Array.length_toList] at hpl ⊢; omega, by
        rw [List.length_set, ← htake, hkz1]
        have := splice_take cur.toList (k * z) (es.length * z) (p1 ++ (cs ++ p3)) (by rw [hpl]; omega) (by simp only [Array.length_toList]; omega)
        rw [hpl] at this
        exact this⟩⟩,
      Rds.set es xs k _ (p1 ++ (cs ++ p3)) hz (Rds.mono C.hS C.hw _ _ m2) (hrd.mono C.hS C.hw) hk'⟩)
  refine ⟨.skip, _, ?_, .inr ⟨rfl, realz_put_none hf hN hd hH' C⟩⟩
  have hcells : (a.eval y).cells.toList = cs := by rw [c1]; exact val_cells c2
  have hsz : (a.eval y).cells.size = zu := by rw [← hcl, ← hcells]; simp
  have e2' : a.eval x = .pointer (some ⟨g, k * z + off, none⟩) := e2
  simp [execOp, Instr.storeAt, e2', Instr.sureAddr, storeVar, run_sizeOf hT, hsz, hcells, hst]
theorem VO_stm {α : Type} {en : α → U} {es : List α → List U} {z : Nat} [E : Enc α en es z] {l : List α} {T : TypeId} {i ver k off e : Nat} {gg : Bool} {zu bs : Nat} {fr : List (Nat × SV)} {L L' : List LO} {N : Nat} (pre post : List U) (old u : U) (a a' : α) (ha : l[k]? = some a) [TI P T gg zu bs]
    (h : VO P A ops rest ⟨fr, L', N⟩ K) (hx : (St.mk fr L N).ev x = .ep i ver z k off := by rfl) (hL : L[i]? = some (.arr e z ver (es l)) := by rfl) (hea : en a = .st (pre ++ old :: post) := by rfl) (hea' : en a' = .st (pre ++ u :: post) := by rfl) (hoff : U.szs pre = off := by rfl)
    (hy : VD L ((St.mk fr L N).ev y) u := by ((repeat (first | exact trivial | exact rfl | exact ⟨_, rfl⟩ | refine And.intro ?_ ?_)); first | done | fail)) (hu : u.sz = zu := by rfl) (hou : old.sz = zu := by rfl) (hL' : L.set i (.arr e z ver (es (l.set k a'))) = L' := by rfl) :
    VO P A ops (⟨none, .store T x y, ty, pos, af, none⟩ :: rest) ⟨fr, L, N⟩ K := by
  rw [Enc.set (es := es), hea'] at hL'
  exact VO_storeAm hx hL (by rw [Enc.get (es := es) ha, hea]) hoff hy TI.h hu hou hL' h
theorem Q_ixai {α : Type} {en : α → U} {es : List α → List U} {z : Nat} [E : Enc α en es z] {e bs ver j : Nat} {T : TypeId} {i : Int} {gg : Bool} {l : List α} (h0 : 0 ≤ i) (hk : i.toNat < l.length) [TE P T e] [TI P e gg z bs] (hx : σ.ev x = .sl j ver := by rfl) (hL : σ.L[j]? = some (.arr e z ver (es l)) := by rfl) (hy : σ.ev y = .d (.i .i64 i) := by rfl) :
    Quiet P A σ ⟨dst, .indexAddr T x y, ty, pos, af, g⟩ (.ep j ver z i.toNat 0) := by
  have := Q_index_arr (P := P) (A := A) (dst := dst) (ty := ty) (pos := pos) (af := af) (g := g) hx hL hy (TE.h : tyE P T = some e) (TI.h : tyI P e = some (gg, z, bs)) h0 (by rw [Enc.len]; omega)
  simpa using this
end
section
variable {P : Program} {A : Amb} {ops : Array Oper} {K : St → Prop} {r : List (Nat × Bool)} {pf : PF} {fr : List (Nat × SV)} {L L1 L' : List LO} {N i t m : Nat}
variable {ty : TypeId} {pos : String} {af : Array Edge} {x y : Operand} {T : TypeId}
theorem VY_ixa {α : Type} {en : α → U} {es : List α → List U} {z : Nat} [E : Enc α en es z] {e bs ver : Nat} {gg : Bool} {l : List α} (k : Nat) (hk : k < l.length) [TE P T e] [TI P e gg z bs] (h : VY P A ops K r pf ⟨(t, .ep m ver z k 0) :: fr, L, N⟩)
    (hi : ops[i]? = some ⟨some t, .indexAddr T x y, ty, pos, af, none⟩ := by rfl) (hx : (St.mk fr L N).ev x = .sl m ver := by rfl) (hL : L[m]? = some (.arr e z ver (es l)) := by rfl) (hy : (St.mk fr L N).ev y = .d (.i .i64 (k : Int)) := by rfl) (ht : Nat.blt t N = true := by rfl)
    (hp : PfOk ops i L pf := by (repeat (first | exact PfOk.nil | (apply PfOk.keep; focus ((repeat constructor); done)) | (apply PfOk.dep; focus kernel_rfl)))) : VY P A ops K ((i, false) :: r) pf ⟨fr, L, N⟩ :=
  VY_hst hi (fun fr' he' K' hK => VO_k (Q_ixa (j := m) k hk (by rw [he' x (by simp [Op.operands])]; exact hx) hL (by rw [he' y (by simp [Op.operands])]; exact hy)) (VO_nil hK) ht) hp h
theorem VY_fla {α : Type} {en : α → U} {es : List α → List U} {z : Nat} [E : Enc α en es z] {l : List α} {ver k off e' f fo : Nat} [TF P T f fo] (h : VY P A ops K r pf ⟨(t, .ep m ver z k (off + fo)) :: fr, L, N⟩)
    (hi : ops[i]? = some ⟨some t, .fieldAddr T x f, ty, pos, af, none⟩ := by rfl) (hx : (St.mk fr L N).ev x = .ep m ver z k off := by rfl) (hL : L[m]? = some (.arr e' z ver (es l)) := by rfl) (ht : Nat.blt t N = true := by rfl)
    (hp : PfOk ops i L pf := by (repeat (first | exact PfOk.nil | (apply PfOk.keep; focus ((repeat constructor); done)) | (apply PfOk.dep; focus kernel_rfl)))) : VY P A ops K ((i, false) :: r) pf ⟨fr, L, N⟩ :=
  VY_hst hi (fun fr' he' K' hK => VO_k (Q_fla (j := m) (by rw [he' x (by simp [Op.operands])]; exact hx) hL) (VO_nil hK) ht) hp h
theorem VY_stm {α : Type} {en : α → U} {es : List α → List U} {z : Nat} [E : Enc α en es z] {l : List α} {ver k off e : Nat} {gg : Bool} {zu bs : Nat} (pre post : List U) (old u : U) (a a' : α) (ha : l[k]? = some a) [TI P T gg zu bs]
    (h : VY P A ops K r pf ⟨fr, L', N⟩)
    (hi : ops[i]? = some ⟨none, .store T x y, ty, pos, af, none⟩ := by rfl) (hx : (St.mk fr L N).ev x = .ep m ver z k off := by rfl) (hL : L[m]? = some (.arr e z ver (es l)) := by rfl) (hea : en a = .st (pre ++ old :: post) := by rfl) (hea' : en a' = .st (pre ++ u :: post) := by rfl) (hoff : U.szs pre = off := by rfl)
    (hy : VD L ((St.mk fr L N).ev y) u := by ((repeat (first | exact trivial | exact rfl | exact ⟨_, rfl⟩ | refine And.intro ?_ ?_)); first | done | fail)) (hu : u.sz = zu := by rfl) (hou : old.sz = zu := by rfl) (hL' : L.set m (.arr e z ver (es (l.set k a'))) = L' := by rfl)
    (hp : PfOk ops i L' pf := by (repeat (first | exact PfOk.nil | (apply PfOk.keep; focus ((repeat constructor); done)) | (apply PfOk.dep; focus kernel_rfl)))) : VY P A ops K ((i, false) :: r) pf ⟨fr, L, N⟩ :=
  VY_hst (sv := .junk) hi (fun fr' he' K' hK => VO_stm pre post old u a a' ha (VO_nil hK) (by rw [he' x (by simp [Op.operands])]; exact hx) hL hea hea' hoff (by rw [he' y (by simp [Op.operands])]; exact hy) hu hou hL') hp h
end
end Go.Eng
set_option linter.unusedVariables false
set_option linter.unusedSimpArgs false
namespace Go.Eng
open Go Go.RowKit
section
variable {P : Program} {A : Amb} {Q Q2 : Exit → St → Prop} {c x y : Code}
theorem V_thenJ {σ : St} (σJ : St) (h1 : V P A x σ (thenS (fun s => Le s σJ) Q)) (h2 : V P A y σJ Q2) (hA : A.L0.length ≤ σJ.L.length := by rw [BaseN.h (A := A)]; exact Nat.le_of_ble_eq_true rfl) : V P A x σ (thenS (fun s => V P A y s Q2) Q) :=
  V.mono h1 (fun e s hq => by
    cases e with
    | normal => exact V_le hq h2 hA
    | _ => exact hq)
theorem Realz.nild {a : Act} {w : World} {fr : List (Nat × SV)} {L : List LO} {N : Nat} {cs cs' : List SV} {z j : Nat} (hL : L[j]? = some (.box cs)) (k : Nat) (hc : cs[k]? = some .nilsl) (hcs : cs.set k (.d (.sl z [])) = cs') (h : Realz A ⟨fr, L, N⟩ a w) : Realz A ⟨fr, L.set j (.box cs'), N⟩ a w := by
  subst hcs
  obtain ⟨S, env, hH, hf, hN, hd⟩ := h
  have hj := (List.getElem?_eq_some_iff.1 hL).1
  obtain ⟨hv, he⟩ : ∃ hv, env[j]? = some hv := ⟨_, List.getElem?_eq_getElem (by rw [hH.len]; exact hj)⟩
  obtain ⟨b, vals, e', r1, r2, r3, r4⟩ := hH.objs j _ hv hL he
  obtain ⟨hH2, C2⟩ := hH.turnF (w' := w) j (.box cs) (.box (cs.set k (.d (.sl z [])))) hv hL rfl he rfl rfl (fun _ _ => rfl) rfl rfl rfl (fun k hk => hk) (fun C => ⟨b, vals, e', r1, r2, by
    have r3' := SVrs.carry C _ _ r3
    rw [SVrs.iff] at r3' ⊢
    obtain ⟨v, v1, v2⟩ := All2.get ((SVrs.iff _ _).1 r3) k _ hc
    simp only [SVr] at v2
    subst v2
    have hset := All2.set k (.d (.sl z [])) (.slice none 0 0) r3' (by
      simp only [SVr]
      exact ⟨[.slice none 0 0], rfl, by simp [Rd]⟩)
    have hk : k < vals.toList.length := (List.getElem?_eq_some_iff.1 v1).1
    have : vals.toList.set k (.slice none 0 0) = vals.toList := by
      apply List.ext_getElem?
      intro m
      rw [List.getElem?_set]
      by_cases hm : k = m
      · subst hm; rw [if_pos rfl, if_pos hk, v1]
      · rw [if_neg hm]
    rwa [this] at hset, r4⟩)
  exact ⟨S, _, hH2, fun t => SVr.carry C2 _ _ (hf t), hN, hd⟩
theorem V_nild {fr : List (Nat × SV)} {L L1 : List LO} {N : Nat} {cs cs' : List SV} (z j k : Nat) (hL : L[j]? = some (.box cs)) (hc : cs[k]? = some .nilsl) (hcs : St1 (.d (.sl z [])) k cs cs') (h1 : St1 (.box cs') j L L1) (h : V P A c ⟨fr, L1, N⟩ Q) : V P A c ⟨fr, L, N⟩ Q := by
  have e2 := hcs.spec
  have e3 := h1.spec
  subst e2; subst e3
  exact fun a w hr => h a w (hr.nild hL k hc rfl)
end
end Go.Eng
