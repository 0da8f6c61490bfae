/- strings.Builder's methods over a builder that the call has made, and strings.IndexByte, as contracts of this engine. -/
import Derived.Test.YtgmlpaaklnkghaaGreatEng39
import Derived.Test.YtgmlpaaklnkghaaGreatEng51
import Derived.Test.YtgmlpaaklnkghaaGreatEng59
import Derived.Shelf.Lay
import Derived.Shelf.Strings.Builder1
import Derived.Shelf.Small.Strs
import Derived.Lib.AppendStr
import Derived.Laws.BytesString
set_option linter.unusedVariables false
set_option linter.unusedSimpArgs false
namespace Go.Proofs
open Go.Shelf Go.RowKit
shelf_lay Lays.n137 Nm 137 at Tryz as Tryz.laysIB
section
variable {P : Program} {ρ : Ren}
/-- Where what was appended to lies: where it lay, or in a new row. -/
theorem appStr (w : World) (t u ty e : TypeId) (i : TypeInfo) (ht : P.underlying t = some (.slice e)) (hu : P.underlying u = some .string) (hi : P.info? e = some i) (hz : i.zero = some (.int .u8 0)) (hsize : i.size = 1) (hby : i.bytes = 1)
    (v : Value) (n : Nat) (xs : List Value) (hown : w.ownsRow 0 e 1 v n xs) (s : ByteArray) (hbytes : n + s.size ≤ 140737488355328) :
    ∃ v' w', (Builtin.append_ #[t, u] ty #[v, .string s]).run P w = .ok v' w' ∧ w'.ownsRow 0 e 1 v' (n + s.size) (xs ++ Lib.strCells s) ∧ w.grownBy w' v.ownBlock ∧ ∀ k, v'.ownBlock = some k → v.ownBlock = some k ∨ w.heap.size ≤ k := by
  obtain ⟨v', w', h1, h2, h3, h4⟩ := Lib.run_append_own_string (P := P) w 0 t u ty e i ht hu hi hz hsize hby v n xs hown s (by unfold maxLen; omega) hbytes (Nat.zero_le _)
  refine ⟨v', w', h1, h2, h3, fun k hk => ?_⟩
  rcases hown.2 with ⟨rfl, rfl⟩ | ⟨g, cap, cur, rfl, hbg, hg, hnc, hcm, hcs, htake⟩
  · by_cases hm : s.size = 0
    · have := h4.2 ⟨rfl, hm⟩
      subst this
      cases hk
    · have hr := run_append_nil_string (P := P) w t u ty e i (.int .u8 0) ht hu hi hz s (by omega) (by omega) (by rw [hby]; omega)
      rw [hr] at h1
      injection h1 with h1 _
      subst h1
      simp only [Value.ownBlock, Option.some.injEq] at hk
      exact .inr (by omega)
  · by_cases hroom : n + s.size ≤ cap
    · have hr := Lib.run_append_room_string (P := P) w t u ty e i ht hu hi hsize g n cap cur hg s hroom (by omega)
      rw [hr] at h1
      injection h1 with h1 _
      subst h1
      exact .inl hk
    · have hr := Lib.run_append_grow_string (P := P) w t u ty e i (.int .u8 0) ht hu hi hz ⟨g, 0, none⟩ n cap xs (by rw [hsize]; simpa using hown.1) (hown.cells (g := g) rfl) s (by omega) (by omega) (by rw [hby]; exact growslice_fits (by omega) (by omega))
      rw [hr] at h1
      injection h1 with h1 _
      subst h1
      simp only [Value.ownBlock, Option.some.injEq] at hk
      exact .inr (by omega)
theorem appOne (w : World) (t ty e : TypeId) (i : TypeInfo) (ht : P.underlying t = some (.slice e)) (hi : P.info? e = some i) (hz : i.zero = some (.int .u8 0)) (hsize : i.size = 1) (hby : i.bytes = 1)
    (v : Value) (n : Nat) (xs : List Value) (hown : w.ownsRow 0 e 1 v n xs) (a : Addr) (c : Int) (hc : w.cell? a = some (.int .u8 c)) (hbytes : n + 1 ≤ 140737488355328) :
    ∃ v' w', (Builtin.append_ #[t, t] ty #[v, .slice (some a) 1 1]).run P w = .ok v' w' ∧ w'.ownsRow 0 e 1 v' (n + 1) (xs ++ [.int .u8 c]) ∧ w.grownBy w' v.ownBlock ∧ ∀ k, v'.ownBlock = some k → v.ownBlock = some k ∨ w.heap.size ≤ k := by
  have hn : ∀ (j : Nat) (u : Value), ([.int .u8 c] : List Value)[j]? = some u → w.cell? (a.add j) = some u := by
    intro j u hj
    match j, hj with
    | 0, hj => simp at hj; subst hj; simpa [Addr.add] using hc
  have h1c : ∀ u ∈ ([.int .u8 c] : List Value), u.oneCell' = true := by intro u hu; simp at hu; subst hu; rfl
  obtain ⟨v', w', h1, h2, h3, h4⟩ := run_append_own (P := P) w 0 t ty e i (.int .u8 0) 1 1 ht hi hz hsize hby rfl (by decide) v n xs hown a 1 1 [.int .u8 c] rfl hn h1c (by unfold maxLen; omega) (by omega) (Nat.zero_le _)
  refine ⟨v', w', h1, h2, h3, fun k hk => ?_⟩
  rcases hown.2 with ⟨rfl, rfl⟩ | ⟨g, cap, cur, rfl, hbg, hg, hnc, hcm, hcs, htake⟩
  · have hr := run_append_nil (P := P) w t ty e i (.int .u8 0) ht hi hz a 1 1 [.int .u8 c] (by rw [hsize]; rfl) hn (by omega) (by omega) (by rw [hby]; omega)
    rw [hr] at h1
    injection h1 with h1 _
    subst h1
    simp only [Value.ownBlock, Option.some.injEq] at hk
    exact .inr (by omega)
  · by_cases hroom : n + 1 ≤ cap
    · have hr := run_append_room (P := P) w t ty e i ht hi g n cap cur hg a 1 1 [.int .u8 c] (by rw [hsize]; rfl) hn h1c hroom (by rw [hsize]; simp; omega)
      rw [hr] at h1
      injection h1 with h1 _
      subst h1
      exact .inl hk
    · have hr := run_append_grow (P := P) w t ty e i (.int .u8 0) ht hi hz ⟨g, 0, none⟩ n cap xs (by rw [hsize]; simpa using hown.1) (hown.cells (g := g) rfl) a 1 1 [.int .u8 c] (by rw [hsize]; rfl) hn (by omega) (by omega) (by rw [hby]; exact growslice_fits (by omega) (by omega))
      rw [hr] at h1
      injection h1 with h1 _
      subst h1
      simp only [Value.ownBlock, Option.some.injEq] at hk
      exact .inr (by omega)
theorem wpApp {ops : Array Oper} {rest : List Oper} {o : Oper} {a : Act} {Q : Exit → Act → World → Prop} {w w' : World} (hgd : o.guard = none) (sl x : Operand) (t u : TypeId) (ho : o.op = .call { callee := .builtin .append, args := #[sl, x], argTypes := #[t, u] }) (vs xv v' : Value) (hs : a.eval sl = vs) (hx : a.eval x = xv)
    (hr : (Builtin.append_ #[t, u] o.type #[vs, xv]).run P w = .ok v' w') (h : wpList P ops Q rest (a.put o.dst v') w') : wpList P ops Q (o :: rest) a w := by
  refine wpList_plain hgd fun K hK => ?_
  unfold Oper.wp execOp
  simp only [ho, resolve, invoke, builtin, Sem.run_bind, Sem.run_pure, Result.andThen_ok, List.map_toArray, List.map_cons, List.map_nil, hs, hx, hr]
  exact hK _ _ h
/-- What stands behind a write: the builder's two cells, its row, and the rest of the world as it was. -/
structure BPost (T e : TypeId) (b : Nat) (v : Value) (xs : List Value) (w w' : World) : Prop where
  at_ : ∃ v', w'.heap[b]? = some (.cells #[.pointer (some ⟨b, 0, none⟩), v'] T (0, 0)) ∧ w'.ownsRow 0 e 1 v' xs.length xs ∧ v'.ownBlock ≠ some b ∧ ∀ k, v'.ownBlock = some k → v.ownBlock = some k ∨ w.heap.size ≤ k
  fr : ∀ k, k < w.heap.size → k ≠ b → v.ownBlock ≠ some k → w'.heap[k]? = w.heap[k]?
  size : w.heap.size ≤ w'.heap.size
  os : w'.os = w.os
  tape : w'.tape = w.tape
  output : w'.output = w.output
theorem owns_kept {w w' : World} {e : TypeId} {v : Value} {n : Nat} {xs : List Value} (h : w.ownsRow 0 e 1 v n xs) (hk : ∀ k, v.ownBlock = some k → w'.heap[k]? = w.heap[k]?) : w'.ownsRow 0 e 1 v n xs := by
  refine ⟨h.1, ?_⟩
  rcases h.2 with h | ⟨g, cap, cur, rfl, hg, hh, r⟩
  · exact .inl h
  · exact .inr ⟨g, cap, cur, rfl, hg, by rw [hk g rfl]; exact hh, r⟩
/-- The end of a write. -/
theorem bEnd {T e : TypeId} {b : Nat} {v v' : Value} {xs : List Value} {w w1 w2 : World} (hlt : b < w.heap.size) (h1 : w1.heap[b]? = some (.cells #[.pointer (some ⟨b, 0, none⟩), v] T (0, 0))) (hk1 : ∀ k, k < w.heap.size → k ≠ b → w1.heap[k]? = w.heap[k]?) (hs1 : w.heap.size ≤ w1.heap.size) (ho : w1.os = w.os) (ht : w1.tape = w.tape) (hu : w1.output = w.output) (hne : v.ownBlock ≠ some b) (hvl : ∀ k, v.ownBlock = some k → k < w.heap.size)
    (hg : w1.grownBy w2 v.ownBlock) (hown : w2.ownsRow 0 e 1 v' xs.length xs) (hnew : ∀ k, v'.ownBlock = some k → v.ownBlock = some k ∨ w1.heap.size ≤ k) : BPost T e b v xs w (w2.setCell ⟨b, 1, none⟩ v') := by
  have hb2 : w2.heap[b]? = some (.cells #[.pointer (some ⟨b, 0, none⟩), v] T (0, 0)) := by rw [hg.block b (by omega) (fun e => hne e.symm)]; exact h1
  have hne' : v'.ownBlock ≠ some b := fun h => by
    rcases hnew b h with h | h
    · exact hne h
    · omega
  refine ⟨⟨v', by simp [World.setCell, Array.getElem?_modify, hb2], owns_kept hown (fun k hk => Below.heap_setCell _ _ _ _ (fun e => hne' (by rw [← show k = b from e]; exact hk))), hne', fun k hk => (hnew k hk).imp id (fun h => by omega)⟩, fun k hk hkb hkv => ?_, ?_, ?_, ?_, ?_⟩
  · rw [Below.heap_setCell _ _ _ _ hkb, hg.block k (by omega) (fun e => hkv e.symm), hk1 k hk hkb]
  · have := hg.size; simp [World.setCell]; omega
  · exact (hg.os.trans ho)
  · exact (hg.tape.trans ht)
  · exact (hg.output.trans hu)
end
theorem mixedO : Tryz.prog.follows .mixedOrders = true := by kernel_rfl
theorem infoB : ∃ j, Tryz.prog.info? 79 = some j ∧ j.size = 2 := by
  have : (Tryz.prog.info? 79).map (·.size) = some 2 := by kernel_rfl
  obtain ⟨j, h1, h2⟩ := Option.map_eq_some_iff.1 this
  exact ⟨j, h1, h2⟩
theorem infoU : ∃ i : TypeInfo, Tryz.prog.info? 5 = some i ∧ i.zero = some (.int .u8 0) ∧ i.size = 1 ∧ i.bytes = 1 := by
  have : (Tryz.prog.info? 5).map (fun i => (i.zero, i.size, i.bytes)) = some (some (.int .u8 0), 1, 1) := by kernel_rfl
  obtain ⟨j, h1, h2⟩ := Option.map_eq_some_iff.1 this
  simp only [Prod.mk.injEq] at h2
  exact ⟨j, h1, h2⟩
theorem entersCC : ∀ args w, (callFunc 100 args).run Tryz.prog w = .ok (.enter 100 args) w := enters_of Tryz.func100 (by kernel_rfl) rfl
set_option maxHeartbeats 1000000 in
set_option maxRecDepth 100000 in
theorem bFresh (b : Nat) (w : World) (h0 : w.cell? ⟨b, 0, none⟩ = some (.pointer none)) (hsh : w.shape? b = some (79, 2)) (hfz : w.frozen? ⟨b, 0, none⟩ = false) :
    Calls Tryz.prog 100 #[.pointer (some ⟨b, 0, none⟩)] w fun e w' => e = .returned (.tuple #[]) ∧ w' = w.setCell ⟨b, 0, none⟩ (.pointer (some ⟨b, 0, none⟩)) := by
  have mixed := mixedO
  obtain ⟨j, hj, hjs⟩ := infoB
  go_enter Tryz.func100, Tryz.ntmps100
  go_wp2
  rw [Lib.run_to_unsafe w ⟨b, 0, none⟩ Tryz.underlying77 Tryz.underlying123 hj (by rw [hjs]; decide) hsh (Nat.zero_lt_succ 1)]
  simp only [Result.andThen]
  rw [Oper.upon_value]
  go_wp2
  rw [run_callFunc_extern Tryz.func113 (by kernel_rfl) (by kernel_rfl) (by kernel_rfl) (e := Extern.AbiNoEscape.same) (by kernel_rfl)]
  rw [Lib.run_noEscape]
  simp only [Result.andThen]
  rw [Oper.upon_value]
  go_wp2
  rw [Lib.run_from_unsafe w ⟨b, 0, none⟩ Tryz.underlying123 Tryz.underlying77 hj hsh (by kernel_rfl)]
  simp only [Result.andThen]
  rw [Oper.upon_value]
  go_wp2
  go_end0
  exact ⟨rfl, rfl⟩
set_option maxHeartbeats 1000000 in
set_option maxRecDepth 100000 in
theorem bUsed (b : Nat) (w : World) (h0 : w.cell? ⟨b, 0, none⟩ = some (.pointer (some ⟨b, 0, none⟩))) :
    Calls Tryz.prog 100 #[.pointer (some ⟨b, 0, none⟩)] w fun e w' => e = .returned (.tuple #[]) ∧ w' = w := by
  have mixed := mixedO
  obtain ⟨j, hj, _⟩ := infoB
  go_enter Tryz.func100, Tryz.ntmps100
  go_wp2
  rw [Lib.run_neq_ptr_same w _ Tryz.underlying77 hj]
  go_wp2
  go_end0
  exact ⟨rfl, rfl⟩
/-- copyCheck, at a builder in either state. -/
theorem bCheck (b : Nat) (p v : Value) (w : World) (hb : w.heap[b]? = some (.cells #[p, v] 79 (0, 0))) (hp : p = .pointer none ∨ p = .pointer (some ⟨b, 0, none⟩)) :
    Calls Tryz.prog 100 #[.pointer (some ⟨b, 0, none⟩)] w fun e w' => e = .returned (.tuple #[]) ∧ w'.heap[b]? = some (.cells #[.pointer (some ⟨b, 0, none⟩), v] 79 (0, 0)) ∧ (∀ k, k ≠ b → w'.heap[k]? = w.heap[k]?) ∧ w'.heap.size = w.heap.size ∧ w'.os = w.os ∧ w'.tape = w.tape ∧ w'.output = w.output := by
  rcases hp with rfl | rfl
  · refine (bFresh b w (by rw [Lib.cell_of_heap hb]; rfl) (by simp [World.shape?, hb]) (Lib.frozen_of_heap hb 0)).mono ?_
    rintro e w' ⟨rfl, rfl⟩
    refine ⟨rfl, by simp [World.setCell, Array.getElem?_modify, hb], fun k hk => Below.heap_setCell _ _ _ _ hk, by simp [World.setCell], rfl, rfl, rfl⟩
  · refine (bUsed b w (by rw [Lib.cell_of_heap hb]; rfl)).mono ?_
    rintro e w' ⟨rfl, rfl⟩
    exact ⟨rfl, hb, fun _ _ => rfl, rfl, rfl, rfl, rfl⟩
set_option maxHeartbeats 2000000 in
set_option maxRecDepth 100000 in
theorem bWS (b : Nat) (p v : Value) (bs : List Value) (s : ByteArray) (w : World) (hb : w.heap[b]? = some (.cells #[p, v] 79 (0, 0))) (hp : p = .pointer none ∨ p = .pointer (some ⟨b, 0, none⟩)) (hown : w.ownsRow 0 5 1 v bs.length bs) (hne : v.ownBlock ≠ some b) (hlen : bs.length + s.size ≤ 140737488355328) :
    Calls Tryz.prog 79 #[.pointer (some ⟨b, 0, none⟩), .string s] w fun e w' => e = .returned (.tuple #[.int .i64 s.size, .nilIface]) ∧ BPost 79 5 b v (bs ++ Lib.strCells s) w w' := by
  obtain ⟨i0, hi, hz0, hz1, hz2⟩ := infoU
  have hlt : b < w.heap.size := (Array.getElem?_eq_some_iff.1 hb).1
  have mixed := mixedO
  have e240 := entersCC
  go_enter Tryz.func79, Tryz.ntmps79
  go_wp2_with (go_at_fn 100; refine (bCheck b p v _ hb hp).mono ?_)
  rintro e w1 ⟨rfl, hb1, hk1, hs1, ho1, ht1, hu1⟩
  have hvl : ∀ k, v.ownBlock = some k → k < w.heap.size := fun k hk => (hown.lt k hk).2
  have hown1 := owns_kept (w' := w1) hown (fun k hk => hk1 k (fun e => hne (e ▸ hk)))
  have c0 : w1.cell? ⟨b, 0, none⟩ = some (.pointer (some ⟨b, 0, none⟩)) := by rw [Lib.cell_of_heap hb1]; rfl
  have c1 : w1.cell? ⟨b, 1, none⟩ = some v := by rw [Lib.cell_of_heap hb1]; rfl
  obtain ⟨v', w2, hrun, hown', hgrow, hnew⟩ := appStr (P := Tryz.prog) w1 22 9 22 5 i0 Tryz.underlying22 Tryz.underlying9 hi hz0 hz1 hz2 v bs.length bs hown1 s hlen
  have hb2 : w2.heap[b]? = some (.cells #[.pointer (some ⟨b, 0, none⟩), v] 79 (0, 0)) := by
    rw [hgrow.block b (by omega) (fun e => hne e.symm)]
    exact hb1
  have d0 : w2.cell? ⟨b, 0, none⟩ = some (.pointer (some ⟨b, 0, none⟩)) := by rw [Lib.cell_of_heap hb2]; rfl
  have d1 : w2.cell? ⟨b, 1, none⟩ = some v := by rw [Lib.cell_of_heap hb2]; rfl
  have f1 : w2.frozen? ⟨b, 1, none⟩ = false := Lib.frozen_of_heap hb2 1
  obtain ⟨ao, n', cap, rfl⟩ : ∃ ao n' cap, v' = .slice ao n' cap := by
    rcases hown'.2 with ⟨hv, _⟩ | ⟨g, cap, cur, hv, _⟩
    · exact ⟨_, _, _, hv⟩
    · exact ⟨_, _, _, hv⟩
  go_wp2_with (at_builtin; refine wpApp rfl _ _ _ _ rfl _ _ _ rfl rfl hrun ?_)
  go_wp2
  go_ret2
  exact ⟨rfl, bEnd hlt hb1 (fun k _ => hk1 k) (by omega) ho1 ht1 hu1 hne hvl hgrow (by simpa [Lib.strCells_length] using hown') hnew⟩
set_option maxHeartbeats 2000000 in
set_option maxRecDepth 100000 in
theorem bWB (b : Nat) (p v : Value) (bs : List Value) (c : Int) (w : World) (hb : w.heap[b]? = some (.cells #[p, v] 79 (0, 0))) (hp : p = .pointer none ∨ p = .pointer (some ⟨b, 0, none⟩)) (hown : w.ownsRow 0 5 1 v bs.length bs) (hne : v.ownBlock ≠ some b) (hlen : bs.length + 1 ≤ 140737488355328) :
    Calls Tryz.prog 80 #[.pointer (some ⟨b, 0, none⟩), .int .u8 c] w fun e w' => e = .returned .nilIface ∧ BPost 79 5 b v (bs ++ [.int .u8 c]) w w' := by
  obtain ⟨i0, hi, hz0, hz1, hz2⟩ := infoU
  have hlt : b < w.heap.size := (Array.getElem?_eq_some_iff.1 hb).1
  have mixed := mixedO
  have e240 := entersCC
  go_enter Tryz.func80, Tryz.ntmps80
  go_wp2_with (go_at_fn 100; refine (bCheck b p v _ hb hp).mono ?_)
  rintro e w1 ⟨rfl, hb1, hk1, hs1, ho1, ht1, hu1⟩
  have hvl : ∀ k, v.ownBlock = some k → k < w.heap.size := fun k hk => (hown.lt k hk).2
  have hown1 := owns_kept (w' := w1) hown (fun k hk => hk1 k (fun e => hne (e ▸ hk)))
  have c0 : w1.cell? ⟨b, 0, none⟩ = some (.pointer (some ⟨b, 0, none⟩)) := by rw [Lib.cell_of_heap hb1]; rfl
  have c1 : w1.cell? ⟨b, 1, none⟩ = some v := by rw [Lib.cell_of_heap hb1]; rfl
  obtain ⟨v', w2, hrun, hown', hgrow, hnew⟩ := appOne (P := Tryz.prog) (w1.alloc (.cells #[.int .u8 c] 5)) 22 22 5 i0 Tryz.underlying22 hi hz0 hz1 hz2 v bs.length bs (hown1.alloc _) ⟨w.heap.size, 0, none⟩ c (by rw [← hs1]; simp) hlen
  have hb1' : (w1.alloc (.cells #[.int .u8 c] 5)).heap[b]? = some (.cells #[.pointer (some ⟨b, 0, none⟩), v] 79 (0, 0)) := by rw [Lib.alloc_old w1 _ b (by omega)]; exact hb1
  have hb2 : w2.heap[b]? = some (.cells #[.pointer (some ⟨b, 0, none⟩), v] 79 (0, 0)) := by
    rw [hgrow.block b (by simp; omega) (fun e => hne e.symm)]
    exact hb1'
  have d0 : w2.cell? ⟨b, 0, none⟩ = some (.pointer (some ⟨b, 0, none⟩)) := by rw [Lib.cell_of_heap hb2]; rfl
  have d1 : w2.cell? ⟨b, 1, none⟩ = some v := by rw [Lib.cell_of_heap hb2]; rfl
  have f1 : w2.frozen? ⟨b, 1, none⟩ = false := Lib.frozen_of_heap hb2 1
  obtain ⟨ao, n', cap, rfl⟩ : ∃ ao n' cap, v' = .slice ao n' cap := by
    rcases hown'.2 with ⟨hv, _⟩ | ⟨g, cap, cur, hv, _⟩
    · exact ⟨_, _, _, hv⟩
    · exact ⟨_, _, _, hv⟩
  go_wp2_with (at_builtin; refine wpApp rfl _ _ _ _ rfl _ _ _ rfl rfl hrun ?_)
  go_wp2
  go_ret
  exact ⟨rfl, bEnd hlt hb1' (fun k hk hkb => by rw [Lib.alloc_old w1 _ k (by omega)]; exact hk1 k hkb) (by simp; omega) ho1 ht1 hu1 hne hvl hgrow (by simpa using hown') hnew⟩
set_option maxHeartbeats 1000000 in
set_option maxRecDepth 100000 in
theorem bStr (b : Nat) (p v : Value) (l : List UInt8) (w : World) (hb : w.heap[b]? = some (.cells #[p, v] 79 (0, 0))) (hown : w.ownsRow 0 5 1 v l.length (Lib.byteCells l)) (h0 : l ≠ []) :
    Calls Tryz.prog 48 #[.pointer (some ⟨b, 0, none⟩)] w fun e w' => e = .returned (.string ⟨l.toArray⟩) ∧ (∀ k, v.ownBlock ≠ some k → w'.heap[k]? = w.heap[k]?) ∧ w'.heap.size = w.heap.size ∧ w'.os = w.os ∧ w'.tape = w.tape ∧ w'.output = w.output := by
  have mixed := mixedO
  have hl0 : l.length ≠ 0 := by simpa using h0
  obtain ⟨g, cap, cur, rfl, hbg, hg, hnc, hcm, hcs, htake⟩ : ∃ g cap cur, v = .slice (some ⟨g, 0, none⟩) l.length cap ∧ 0 ≤ g ∧ w.heap[g]? = some (.cells cur 5 (0, 0)) ∧ l.length ≤ cap ∧ cap ≤ maxLen ∧ cur.size = cap * 1 ∧ cur.toList.take (l.length * 1) = Lib.byteCells l := by
    rcases hown.2 with ⟨_, hz⟩ | ⟨g, cap, cur, hv, r⟩
    · exact absurd hz hl0
    · exact ⟨g, cap, cur, hv, r⟩
  have c1 : w.drew.cell? ⟨b, 1, none⟩ = some (.slice (some ⟨g, 0, none⟩) l.length cap) := by
    have : w.drew.heap[b]? = some (.cells #[p, .slice (some ⟨g, 0, none⟩) l.length cap] 79 (0, 0)) := hb
    rw [Lib.cell_of_heap this]; rfl
  have hSD : (Builtin.unsafeSliceData_ #[22] 105 #[.slice (some ⟨g, 0, none⟩) l.length cap]).run Tryz.prog w.drew = .ok (.pointer (some ⟨g, 0, none⟩)) w.drew :=
    Lib.run_unsafeSliceData_row _ _ _ _ _ _ (by omega)
  have hUS : (Builtin.unsafeString_ #[105, 3] 9 #[.pointer (some ⟨g, 0, none⟩), .int .i64 l.length]).run Tryz.prog w.drew = .ok (.string ⟨l.toArray⟩) (w.drew.freeze ⟨g, 0, none⟩ l.length) := by
    refine Lib.run_unsafeString_row w.drew 105 3 9 5 Tryz.underlying105 (by kernel_rfl) g cur.size (by have hg' : w.drew.heap[g]? = some (.cells cur 5 (0, 0)) := hg; simp [World.shape?, hg']) l h0 (by omega) (by unfold maxLen at hcm; omega) ?_
    intro j x hx
    have := hown.cells (g := g) rfl j (.int .u8 x.toNat) (by simp [Lib.byteCells, hx])
    exact this
  go_enter Tryz.func48, Tryz.ntmps48
  go_wp2
  go_region_o
  all_goals (go_wp2; go_ret; refine ⟨rfl, fun k hk => ?_, ?_, by unfold World.freeze; split <;> rfl, by unfold World.freeze; split <;> rfl, by unfold World.freeze; split <;> rfl⟩)
  · have hkg : k ≠ g := fun e => hk (by simp [Value.ownBlock, e])
    unfold World.freeze
    split
    · rfl
    · simp only [Array.getElem?_modify]
      rw [if_neg (fun e => hkg e.symm)]
      rfl
  · unfold World.freeze
    split
    · rfl
    · simp only [Array.size_modify]
      rfl
theorem Tryz.strings_IndexByte (s : ByteArray) (c : Int) (w : World) : Calls Tryz.prog 121 #[.string s, .int .u8 c] w fun e w' => e = .returned (.int .i64 (Lib.indexByte s.data.toList c.toNat.toUInt8)) ∧ w' = w := Any.strings_IndexByte Tryz.laysIB s c w
namespace YtgmlpaaklnkghaaGreat
open Go.Eng
theorem bcells_app (a b : List UInt8) : bcells (a ++ b) = bcells a ++ bcells b := by simp [bcells]
theorem bcells_len (a : List UInt8) : (bcells a).length = a.length := by simp [bcells]
theorem t_WS (l s : List UInt8) (h : l.length + s.length ≤ 4294967296) : Go.Eng.Spec Tryz.prog 79 [.ptr 0 0, .d (.s s)] [.bld 5 79 l] (fun sv Lo => sv = .tup [.d (.i .i64 (s.length : Int)), .junk] ∧ Lo = [.bld 5 79 (l ++ s)]) := by
  refine ⟨⟨_, Tryz.func79, by kernel_rfl, by kernel_rfl⟩, fun A S env w vs hw0 hS0 hL0 henv hH hv => ?_⟩
  match vs, hv with
  | [a, b], hv =>
    simp only [SVrs, and_true] at hv
    obtain ⟨ha, hb⟩ := hv
    rw [SVr.str] at hb
    obtain ⟨_, rfl⟩ := hb
    obtain ⟨b, p, v, rfl, rfl, k1, k2, k3, k4⟩ := bld_arg hH ha
    refine (bWS b p v (bcells l) ⟨s.toArray⟩ w k1 k2 (by rw [bcells_len]; exact k3) k4 (by rw [bcells_len]; show l.length + s.toArray.size ≤ _; simp; omega)).mono ?_
    rintro e w' ⟨rfl, hP⟩
    have e1 : bcells l ++ Lib.strCells ⟨s.toArray⟩ = bcells (l ++ s) := by rw [bcells_app]; rfl
    obtain ⟨⟨v', q1, q2, q3, q4⟩, q5, q6, q7, q8, q9⟩ := hP
    rw [e1, bcells_len] at q2
    obtain ⟨hH', C⟩ := hH.bld (i := 0) (l' := l ++ s) rfl rfl k1 k3 ⟨v', q1, q2, q3, q4⟩ q5 q6 q7 q8 q9
    refine ⟨_, _, S, _, _, rfl, ⟨rfl, rfl⟩, hH', ?_⟩
    simp only [SVr]
    exact ⟨[.int .i64 s.length, .nilIface], by simp [ByteArray.size], by simp only [SVrs]; exact ⟨SVr.int.2 rfl, by simp only [SVr], trivial⟩⟩
theorem t_WB (l : List UInt8) (c : UInt8) (h : l.length + 1 ≤ 4294967296) : Go.Eng.Spec Tryz.prog 80 [.ptr 0 0, .d (.i .u8 (c.toNat : Int))] [.bld 5 79 l] (fun sv Lo => sv = .junk ∧ Lo = [.bld 5 79 (l ++ [c])]) := by
  refine ⟨⟨_, Tryz.func80, by kernel_rfl, by kernel_rfl⟩, fun A S env w vs hw0 hS0 hL0 henv hH hv => ?_⟩
  match vs, hv with
  | [a, b], hv =>
    simp only [SVrs, and_true] at hv
    obtain ⟨ha, hb⟩ := hv
    rw [SVr.int] at hb
    subst hb
    obtain ⟨b, p, v, rfl, rfl, k1, k2, k3, k4⟩ := bld_arg hH ha
    refine (bWB b p v (bcells l) (c.toNat : Int) w k1 k2 (by rw [bcells_len]; exact k3) k4 (by rw [bcells_len]; omega)).mono ?_
    rintro e w' ⟨rfl, hP⟩
    have e1 : bcells l ++ [Value.int .u8 (c.toNat : Int)] = bcells (l ++ [c]) := by rw [bcells_app]; rfl
    obtain ⟨⟨v', q1, q2, q3, q4⟩, q5, q6, q7, q8, q9⟩ := hP
    rw [e1, bcells_len] at q2
    obtain ⟨hH', C⟩ := hH.bld (i := 0) (l' := l ++ [c]) rfl rfl k1 k3 ⟨v', q1, q2, q3, q4⟩ q5 q6 q7 q8 q9
    exact ⟨_, _, S, _, _, rfl, ⟨rfl, rfl⟩, hH', by simp only [SVr]⟩
theorem t_Str (l : List UInt8) (h : l ≠ [] ∧ l.length ≤ 4294967296) : Go.Eng.Spec Tryz.prog 48 [.ptr 0 0] [.bld 5 79 l] (fun sv Lo => sv = .d (.s l) ∧ Lo = [.dead 0]) := by
  refine ⟨⟨_, Tryz.func48, by kernel_rfl, by kernel_rfl⟩, fun A S env w vs hw0 hS0 hL0 henv hH hv => ?_⟩
  match vs, hv with
  | [a], hv =>
    simp only [SVrs, and_true] at hv
    obtain ⟨b, p, v, rfl, rfl, k1, k2, k3, k4⟩ := bld_arg hH hv
    refine (bStr b p v l w k1 k3 h.1).mono ?_
    rintro e w' ⟨rfl, q1, q2, q3, q4, q5⟩
    obtain ⟨hH', C⟩ : HeapR A S [.dead 0] [.pointer (some ⟨b, 0, none⟩)] w' ∧ Carry S [.bld 5 79 l] [.pointer (some ⟨b, 0, none⟩)] w S [.dead 0] [.pointer (some ⟨b, 0, none⟩)] w' := by
      refine hH.eat [] 0 (.dead 0) (.pointer (some ⟨b, 0, none⟩)) rfl (fun j hj => ?_) rfl (fun _ _ => rfl) rfl (fun k hk hno => q1 k (fun e => ?_)) (fun o hv1 h1 h2 => ?_) (by omega) q3 q4 q5 (fun k hk => hk.elim) (fun _ => trivial)
      · cases j with
        | zero => exact absurd rfl hj
        | succ j => simp
      · refine hno _ _ rfl rfl ⟨rfl, .inr ⟨b, v, rfl, by simp [rowOf, k1], ?_⟩⟩
        rw [blk_ownR k3]
        exact e
      · simp only [List.getElem?_cons_zero, Option.some.injEq] at h1 h2
        subst h1; subst h2
        exact ⟨Nat.le_refl _, fun _ => rfl, fun _ _ => rfl⟩
    exact ⟨_, _, S, _, _, rfl, ⟨rfl, rfl⟩, hH', SVr.str.2 ⟨by rw [big_eq]; omega, rfl⟩⟩
theorem bnew_run : ∀ w, (Instr.build 79 #[]).run Tryz.prog w = .ok (.agg #[.pointer none, .slice none 0 0]) w := fun w => by kernel_rfl
/-- Where a byte stands. -/
theorem t_IndexByte (s : List UInt8) (c : Int) : SpecP Tryz.prog 121 [.d (.s s), .d (.i .u8 c)] [.i .i64 (Lib.indexByte s c.toNat.toUInt8)] := by
  refine ⟨⟨_, Tryz.func121, by kernel_rfl, by kernel_rfl⟩, ?_⟩
  intro A S env w vs hw hS hA0 he hH hargs
  match vs, hargs with
  | [a, b], hv =>
    simp only [SVrs, and_true] at hv
    obtain ⟨ha, hb⟩ := hv
    rw [SVr.str] at ha
    rw [SVr.int] at hb
    obtain ⟨_, rfl⟩ := ha
    subst hb
    refine (Tryz.strings_IndexByte ⟨s.toArray⟩ c w).mono ?_
    rintro e w' ⟨rfl, rfl⟩
    have henv : env = [] := List.eq_nil_of_length_eq_zero (by simpa using hH.len)
    subst henv
    exact ⟨_, _, S, [], [], rfl, ⟨rfl, rfl⟩, hH, SVr.int.2 rfl⟩
end YtgmlpaaklnkghaaGreat
end Go.Proofs
set_option linter.unusedVariables false
set_option linter.unusedSimpArgs false
namespace Go.Eng
open Go Go.RowKit
/-- Where what was appended to lies: where it lay, or in a new row. -/
theorem appStr0 {P : Program} (w : World) (t u ty e : TypeId) (i : TypeInfo) (ht : P.underlying t = some (.slice e)) (hu : P.underlying u = some .string) (hi : P.info? e = some i) (hz : i.zero = some (.int .u8 0)) (hsize : i.size = 1) (hby : i.bytes = 1)
    (v : Value) (n : Nat) (xs : List Value) (hown : w.ownsRow 0 e 1 v n xs) (s : ByteArray) (hbytes : n + s.size ≤ 140737488355328) :
    ∃ v' w', (Builtin.append_ #[t, u] ty #[v, .string s]).run P w = .ok v' w' ∧ w'.ownsRow 0 e 1 v' (n + s.size) (xs ++ Lib.strCells s) ∧ w.grownBy w' v.ownBlock ∧ ∀ k, v'.ownBlock = some k → v.ownBlock = some k ∨ w.heap.size ≤ k := by
  obtain ⟨v', w', h1, h2, h3, h4⟩ := Lib.run_append_own_string (P := P) w 0 t u ty e i ht hu hi hz hsize hby v n xs hown s (by unfold maxLen; omega) hbytes (Nat.zero_le _)
  refine ⟨v', w', h1, h2, h3, fun k hk => ?_⟩
  rcases hown.2 with ⟨rfl, rfl⟩ | ⟨g, cap, cur, rfl, hbg, hg, hnc, hcm, hcs, htake⟩
  · by_cases hm : s.size = 0
    · have := h4.2 ⟨rfl, hm⟩
      subst this
      cases hk
    · have hr := run_append_nil_string (P := P) w t u ty e i (.int .u8 0) ht hu hi hz s (by omega) (by omega) (by rw [hby]; omega)
      rw [hr] at h1
      injection h1 with h1 _
      subst h1
      simp only [Value.ownBlock, Option.some.injEq] at hk
      exact .inr (by omega)
  · by_cases hroom : n + s.size ≤ cap
    · have hr := Lib.run_append_room_string (P := P) w t u ty e i ht hu hi hsize g n cap cur hg s hroom (by omega)
      rw [hr] at h1
      injection h1 with h1 _
      subst h1
      exact .inl hk
    · have hr := Lib.run_append_grow_string (P := P) w t u ty e i (.int .u8 0) ht hu hi hz ⟨g, 0, none⟩ n cap xs (by rw [hsize]; simpa using hown.1) (hown.cells (g := g) rfl) s (by omega) (by omega) (by rw [hby]; exact growslice_fits (by omega) (by omega))
      rw [hr] at h1
      injection h1 with h1 _
      subst h1
      simp only [Value.ownBlock, Option.some.injEq] at hk
      exact .inr (by omega)
theorem bytes_tr {w : World} : ∀ (l : List UInt8) (xs : List Value), Trs w (eBytes l) xs ↔ xs = bcells l
  | [], xs => by simp [eBytes, Trs, bcells]
  | a :: l, xs => by
    have ih := bytes_tr (w := w) l
    simp only [eBytes, Trs, Tr, U.sz]
    cases xs with
    | nil => simp [bcells]
    | cons x xs =>
      simp only [List.take_succ_cons, List.take_zero, List.drop_succ_cons, List.drop_zero, ih]
      simp [bcells]
theorem bytes_fps {w : World} : ∀ (l : List UInt8) (xs : List Value), U.fps w (eBytes l) xs = []
  | [], _ => rfl
  | a :: l, xs => by simp only [eBytes, U.fps, U.fp, List.nil_append]; exact bytes_fps l _
theorem bytes_len (l : List UInt8) : (eBytes l).length = l.length := Enc.len (es := eBytes) l
section
variable {P : Program} {A : Amb} {σ : St} {K : St → Prop}
variable {ops : Array Oper} {rest : List Oper} {x y : Operand} {dst : Option Nat} {g : Option (Nat × Bool)} {ty : TypeId} {pos : String} {af : Array Edge}
theorem own_bytes {S : Nat → Prop} {L : List LO} {env : List Value} {w : World} {e ver : Nat} {l : List UInt8} {hv : Value} (h : ObjR S L env w (.own e 1 ver (eBytes l)) hv) : l.length ≤ big ∧ w.ownsRow 0 e 1 hv l.length (bcells l) := by
  obtain ⟨h1, _, ⟨xs, h3, h4⟩, _⟩ := h
  rw [bytes_len] at h1 h3
  rw [bytes_tr] at h4
  subst h4
  exact ⟨h1, h3⟩
theorem own_bytes_ft {w : World} {e ver n : Nat} {l : List UInt8} {hv : Value} {xs : List Value} (h : w.ownsRow 0 e 1 hv n xs) (hn : l.length = n) (k : Nat) : (LO.own e 1 ver (eBytes l)).ft w hv k ↔ hv.ownBlock = some k := by
  simp only [LO.ft]
  rcases h.2 with ⟨rfl, _⟩ | ⟨g, cap, cur, rfl, _⟩
  · simp [U.fp, Value.ownBlock]
  · simp only [U.fp, bytes_fps, List.mem_singleton, Value.ownBlock, Option.some.injEq]
    exact eq_comm
/-- A text is appended to bytes of the call's own. -/
theorem VO_aps {T T2 T' e : TypeId} {t i ver : Nat} {l s : List UInt8} {fr : List (Nat × SV)} {L L' : List LO} {N : Nat} [TE P T e] (hT2 : P.underlying T2 = some .string) (hinfo : ∃ i : TypeInfo, P.info? e = some i ∧ i.zero = some (.int .u8 0) ∧ i.size = 1 ∧ i.bytes = 1) (hlen : l.length + s.length ≤ 4294967296)
    (h : VO P A ops rest ⟨(t, .sl i (ver + 1)) :: fr, L', N⟩ K) (hx : (St.mk fr L N).ev x = .sl i ver := by rfl) (hL : L[i]? = some (.own e 1 ver (eBytes l)) := by rfl) (hy : (St.mk fr L N).ev y = .d (.s s) := by rfl) (ht : Nat.blt t N = true := by rfl) (hL' : St1 (.own e 1 (ver + 1) (eBytes (l ++ s))) i L L' := by repeat constructor) :
    VO P A ops (⟨some t, .call { callee := .builtin .append, args := #[x, y], argTypes := #[T, T2] }, T', pos, af, none⟩ :: rest) ⟨fr, L, N⟩ K := by
  have hL2 := hL'.spec
  subst hL2
  refine VO_step rfl (fun S env a w hH hf hN hd => ?_) h
  have h1 := Realz.ev hf hH x
  have h2 := Realz.ev hf hH y
  rw [hx] at h1
  rw [hy, SVr.str] at h2
  simp only [SVr] at h1
  obtain ⟨hv, o, k1, k2, k3, k5, k4⟩ := h1
  rw [hL] at k2
  obtain rfl := Option.some.inj k2
  have k6 := k4 rfl
  obtain ⟨b1, b2⟩ := own_bytes (hH.objs i _ hv hL k1)
  have hi := (List.getElem?_eq_some_iff.1 hL).1
  have hie : i < env.length := by rw [hH.len]; exact hi
  obtain ⟨i0, q1, q2, q3, q4⟩ := hinfo
  have hs : (⟨s.toArray⟩ : ByteArray).size = s.length := rfl
  obtain ⟨v', w', hrun, hown', hgrow, hnew⟩ := appStr0 (P := P) w T T2 T' e i0 (tyE_und TE.h) hT2 q1 q2 q3 q4 hv l.length (bcells l) b2 ⟨s.toArray⟩ (by rw [hs]; omega)
  have e1 : bcells l ++ Lib.strCells ⟨s.toArray⟩ = bcells (l ++ s) := by simp [bcells, Lib.strCells]
  rw [e1, hs] at hown'
  have hone : v'.oneCell' = true := by
    rcases hown'.2 with ⟨rfl, _⟩ | ⟨g, cap, cur, rfl, _⟩ <;> rfl
  obtain ⟨hH', C⟩ : HeapR A S (L.set i (.own e 1 (ver + 1) (eBytes (l ++ s)))) (env.set i v') w' ∧ Carry S L env w S (L.set i (.own e 1 (ver + 1) (eBytes (l ++ s)))) (env.set i v') w' := by
    refine hH.eat [] i _ v' (by rw [List.length_set, List.length_set]; exact hH.len) (fun j hj => ?_) (List.getElem?_set_self hi) (fun j hj => by rw [List.getElem?_set_ne (fun e => hj e.symm)]) (List.getElem?_set_self hie) (fun k hk hno => ?_) (fun o hv1 m1 m2 => ?_) hgrow.size hgrow.os hgrow.tape hgrow.output (fun k hk => ?_) (fun C => ?_)
    · rw [List.getElem?_set_ne (fun e => hj e.symm)]
      simp
    · refine hgrow.block k hk (fun e => hno _ _ hL k1 ⟨rfl, (own_bytes_ft b2 rfl k).2 e.symm⟩)
    · rw [hL] at m1; rw [k1] at m2
      cases m1; cases m2
      refine ⟨Nat.le_succ _, fun e => absurd e (Nat.ne_of_lt (Nat.lt_succ_self _)), fun b hb => ?_⟩
      subst hb
      rcases b2.2 with ⟨h, _⟩ | ⟨g, cap, cur, h, _⟩ <;> cases h
    · have hk' := (own_bytes_ft hown' (by simp) k).1 hk
      refine ⟨(hown'.lt k hk').2, ?_⟩
      rcases hnew k hk' with h | h
      · exact .inr ⟨i, _, _, .inl rfl, hL, rfl, k1, (own_bytes_ft b2 rfl k).2 h⟩
      · exact .inl h
    · refine ⟨by rw [bytes_len, List.length_append, big_eq]; omega, Enc.all (es := eBytes) _, ⟨bcells (l ++ s), by rw [bytes_len, List.length_append]; exact hown', (bytes_tr _ _).2 rfl⟩, ?_⟩
      rcases hown'.2 with ⟨rfl, _⟩ | ⟨g, cap, cur, rfl, _⟩
      · simp [U.fp]
      · simp [U.fp, bytes_fps]
  refine ⟨.value v', w', ?_, .inl ⟨_, rfl, realz_put hf hN hd ht hH' C ?_⟩⟩
  · unfold execOp
    simp only [resolve, invoke, builtin, Sem.run_bind, Sem.run_pure, Result.andThen_ok, List.map_toArray, List.map_cons, List.map_nil, k6, h2.2, hrun]
  · simp only [SVr]
    exact ⟨v', _, List.getElem?_set_self hie, List.getElem?_set_self hi, Nat.le_refl _, hone, fun _ => rfl⟩
/-- Bytes of the call's own as a text. -/
theorem Q_convBs {T T2 e : TypeId} {j ver e' : Nat} {l : List UInt8} (h1 : P.underlying T = some (.slice e)) (h2 : P.underlying e = some (.int .u8)) (h3 : P.underlying T2 = some .string) (hx : σ.ev x = .sl j ver := by rfl) (hL : σ.L[j]? = some (.own e' 1 ver (eBytes l)) := by rfl) :
    Quiet P A σ ⟨dst, .convert T T2 x, ty, pos, af, g⟩ (.d (.s l)) := Quiet.pure fun S env a w hH ho => by
  have h4 := ho x (by simp [Op.operands])
  rw [hx] at h4
  simp only [SVr] at h4
  obtain ⟨hv, o, k1, k2, k3, k5, k4⟩ := h4
  rw [hL] at k2
  obtain rfl := Option.some.inj k2
  have k6 := k4 rfl
  obtain ⟨b1, b2⟩ := own_bytes (hH.objs j _ hv hL k1)
  refine ⟨.string ⟨l.toArray⟩, ?_, SVr.str.2 ⟨b1, rfl⟩⟩
  have hl : (bcells l).length = l.length := by simp [bcells]
  rcases b2.2 with ⟨rfl, h0⟩ | ⟨b, cap, cur, rfl, r⟩
  · have : l = [] := List.eq_nil_of_length_eq_zero h0
    subst this
    simp [execOp, k6, convert, run_underlying h1, run_underlying h2, run_underlying h3, Conv.bytesToString]
    rfl
  · have hld := run_loadCells_list (P := P) (w := w) ⟨b, 0, none⟩ (bcells l) (fun j u hu => b2.cells (g := b) rfl j u hu)
    rw [hl] at hld
    have e2 : (bcells l).toArray = ((l.map fun x => (x.toNat : Int)).map (Value.int .u8)).toArray := by simp [bcells, Function.comp_def]
    rw [e2] at hld
    have e3 : ∀ (l : List UInt8) (s : ByteArray), (l.map fun x => (x.toNat : Int)).foldl (fun r n => r.push (UInt8.ofNat n.toNat)) s = ⟨s.data ++ l.toArray⟩ := by
      intro l
      induction l with
      | nil => intro s; simp
      | cons x l ih =>
        intro s
        simp only [List.map_cons, List.foldl_cons]
        rw [ih]
        apply ByteArray.ext
        simp [ByteArray.push]
    have hr := run_bytesToString (P := P) w ⟨b, 0, none⟩ l.length cap _ hld
    rw [e3] at hr
    have e4 : (⟨ByteArray.empty.data ++ l.toArray⟩ : ByteArray) = ⟨l.toArray⟩ := by apply ByteArray.ext; simp
    rw [e4] at hr
    simp only [execOp, k6, run_convert_bytes_string w T T2 e _ _ _ h1 h2 h3, Sem.run_bind, hr, Result.andThen_ok, Sem.run_pure]
end
end Go.Eng
