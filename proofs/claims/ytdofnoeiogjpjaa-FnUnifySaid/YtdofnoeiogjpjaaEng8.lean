/- The engine, part 8: stores into arrays, slice literals, arrays let go (they become data), data in other guises, calls, functions. -/
import Derived.Test.YtdofnoeiogjpjaaEng7
namespace Go.Eng
open Go Go.RowKit

/-- A symbolic value seen as data. -/
def VL (L : List LO) : SV → U → Prop
  | .d u, u' => u = u'
  | .nilsl, .sl _ us => us = []
  | .sl i ver, .sl z es => ∃ e, L[i]? = some (.frz e z ver es)
  | _, _ => False
def VLs (L : List LO) : List SV → List U → Prop
  | [], [] => True
  | sv :: svs, u :: us => VL L sv u ∧ VLs L svs us
  | _, _ => False
def VD (L : List LO) : SV → U → Prop
  | .ag cs, .st us => VLs L cs (U.flats us)
  | sv, u => VL L sv u

section
variable {A : Amb} {S : Nat → Prop} {L : List LO} {env : List Value} {w : World}
theorem VL.r (hH : HeapR A S L env w) {sv : SV} {u : U} {v : Value} (h : VL L sv u) (hv : SVr S L env w sv v) : SVr S L env w (.d u) v := by
  cases sv with
  | d u' => have : u' = u := h; subst this; exact hv
  | nilsl =>
    cases u with
    | sl z us =>
      have : us = [] := h
      subst this
      simp only [SVr] at hv
      subst hv
      exact SVr.slice.2 ⟨by simp [big_eq], none, 0, rfl, .inl rfl⟩
    | _ => exact h.elim
  | sl i ver =>
    cases u with
    | sl z us =>
      obtain ⟨e, h⟩ := h
      simp only [SVr] at hv
      obtain ⟨hv', o, k1, k2, k3, k5, k4⟩ := hv
      rw [h] at k2
      obtain rfl := Option.some.inj k2
      rw [k4 rfl]
      simp only [SVr]
      exact hH.objs i _ _ h k1
    | _ => exact h.elim
  | _ => exact h.elim
theorem VL.flat {sv : SV} {u : U} (h : VL L sv u) (h1 : u.isSt = false) : u.flat = [u] := by
  cases u <;> simp_all [U.flat, U.isSt]
theorem VLs.r (hH : HeapR A S L env w) : ∀ {svs : List SV} {us : List U} {vs : List Value}, (∀ u ∈ us, u.isSt = false) → VLs L svs us → SVrs S L env w svs vs → All2 (fun u c => Rd S w u [c]) us vs
  | [], [], [], _, _, _ => trivial
  | sv :: svs, u :: us, v :: vs, hu, h, hv => by
    simp only [SVrs] at hv
    exact ⟨(SVr.leaf (hu u (by simp))).1 (VL.r hH h.1 hv.1), VLs.r hH (fun u hu' => hu u (by simp [hu'])) h.2 hv.2⟩
  | [], _ :: _, _, _, h, _ => h.elim
  | _ :: _, [], _, _, h, _ => h.elim
  | [], [], _ :: _, _, _, h => by simp [SVrs] at h
  | _ :: _, _ :: _, [], _, _, h => by simp [SVrs] at h
theorem VD.r (hH : HeapR A S L env w) {sv : SV} {u : U} {v : Value} (h : VD L sv u) (hv : SVr S L env w sv v) : SVr S L env w (.d u) v := by
  cases sv with
  | ag cs =>
    cases u with
    | st us =>
      have h : VLs L cs (U.flats us) := h
      simp only [SVr] at hv
      obtain ⟨vs, rfl, hv⟩ := hv
      have := VLs.r hH (U.flats_leaf us) h hv
      simp only [SVr]
      refine ⟨vs, rfl, ?_⟩
      simp only [Rd]
      exact Rds.of_leafs us vs this
    | _ => exact h.elim
  | d u' => exact VL.r hH (show VL L (.d u') u by cases u <;> exact h) hv
  | nilsl => exact VL.r hH (show VL L .nilsl u by cases u <;> exact h) hv
  | sl i ver => exact VL.r hH (show VL L (.sl i ver) u by cases u <;> exact h) hv
  | junk => cases u <;> exact h.elim
  | ptr i off => cases u <;> exact h.elim
  | dp u => cases u <;> exact h.elim
  | ep i ver z k off => cases u <;> exact h.elim
  | fn f caps => cases u <;> exact h.elim
  | tup vs => cases u <;> exact h.elim
end

section
variable {P : Program} {A : Amb} {σ : St} {K : St → Prop}
variable {ops : Array Oper} {rest : List Oper} {t : Nat} {ty : TypeId} {pos : String} {af : Array Edge} {x y : Operand} {sv : SV}

/-- A slot seen as data. -/
theorem VO_view {u : U} (t : Nat) (h1 : VD σ.L (look σ.fr t) u) (h : VO P A ops rest (σ.set t (.d u)) K) : VO P A ops rest σ K := by
  intro R hR a w ⟨S, env, hH, hf, hN, hd⟩
  refine h R hR a w ⟨S, env, hH, fun s => ?_, hN, hd⟩
  simp only [St.set, look]
  split
  · rename_i hs
    subst hs
    exact VD.r hH h1 (hf _)
  · exact hf s

theorem val_cells {u : U} {cs : List Value} {S : Nat → Prop} {w : World} (h : Rd S w u cs) : (val u cs).cells.toList = cs := by
  by_cases hst : u.isSt = true
  · simp [val, hst, Value.cells]
  · have hst : u.isSt = false := by simpa using hst
    have hlen := Rd.length _ _ h
    rw [sz_of_not_st hst] at hlen
    match cs, hlen, h with
    | [c], _, h =>
      have := Rd.oneCell _ _ h c (by simp)
      simp [val, hst, cells_one this]

theorem splice_take {α : Type} (l : List α) (a n : Nat) (m : List α) (h : a + m.length ≤ n) (hn : n ≤ l.length) :
    (l.take a ++ m ++ l.drop (a + m.length)).take n = (l.take n).take a ++ m ++ (l.take n).drop (a + m.length) := by
  have hl : (l.take a ++ m).length = a + m.length := by simp only [List.length_append, List.length_take]; omega
  rw [List.take_append, hl, List.take_of_length_le (by omega), List.drop_take, List.take_take, Nat.min_eq_left (by omega)]

/-- A whole element of an array of the call's own is stored. -/
theorem VO_store_ep {T : TypeId} {gg : Bool} {i ver z k e bs : Nat} {es : List U} {u : U} {fr : List (Nat × SV)} {L L' : List LO} {N : Nat} (hx : (St.mk fr L N).ev x = .ep i ver z k 0) (hL : L[i]? = some (.arr e z ver es)) (hy : VD L ((St.mk fr L N).ev y) u)
    (hT : tyI P T = some (gg, z, bs)) (hu : u.sz = z) (hk : k < es.length) (hL' : L.set i (.arr e z ver (es.set k u)) = L')
    (h : VO P A ops rest ⟨fr, L', N⟩ K) :
    VO P A ops (⟨none, .store T x y, ty, pos, af, none⟩ :: rest) ⟨fr, L, N⟩ K := by
  subst hL'
  refine VO_step rfl (fun S env a w hH hf hN hd => ?_) h
  have h1 := Realz.ev hf hH x
  have h2 := VD.r hH hy (Realz.ev hf hH y)
  rw [hx] at h1
  simp only [SVr] at h1 h2
  obtain ⟨hv, o, k1, k2, k3, k5, k4⟩ := h1
  rw [hL] at k2
  obtain rfl := Option.some.inj k2
  obtain ⟨b, e1, e2⟩ := k4 rfl
  obtain ⟨hbg, hz, xs, m1, m2⟩ := hH.objs i _ hv hL k1
  obtain ⟨cs, c1, c2⟩ := h2
  have hcl := Rd.length _ _ c2
  rw [hu] at hcl
  rcases m1.2 with ⟨rfl, _⟩ | ⟨g, cap, cur, rfl, hg0, hg, hnc, hcm, hcs, htake⟩
  · simp [blk] at e1
  simp only [blk, Option.some.injEq] at e1
  subst e1
  have hkz : (k + 1) * z ≤ es.length * z := Nat.mul_le_mul_right _ hk
  have hcap : es.length * z ≤ cap * z := Nat.mul_le_mul_right _ hnc
  have hkz1 : (k + 1) * z = k * z + z := by rw [Nat.add_mul]; omega
  have hxl := m1.1
  have hst := run_storeCells_at P g (k * z) e cs 0 cur w hg (by omega) (Rd.oneCell _ _ c2)
  rw [Nat.add_zero, hcl] at hst
  have hrow := setRow_heap w g cur ((cur.toList.take (k * z) ++ cs ++ cur.toList.drop (k * z + z)).toArray) e (0, 0) hg
  obtain ⟨hH', C⟩ := hH.turn (w' := w.setRow g (cur.toList.take (k * z) ++ cs ++ cur.toList.drop (k * z + z)).toArray) i _ (.arr e z ver (es.set k u)) _ g hL rfl k1 rfl rfl rfl
    (setRow_size _ _ _) (fun k hk => setRow_other w g k _ hk) rfl rfl rfl
    (fun C => ⟨by simpa using hbg, fun v hv => by
        rcases List.mem_or_eq_of_mem_set hv with hv | rfl
        · exact hz v hv
        · exact hu,
      xs.take (k * z) ++ cs ++ xs.drop ((k + 1) * z), ⟨by simp only [List.length_append, List.length_take, List.length_drop, List.length_set, hxl, hcl]; omega, .inr ⟨g, cap, _, by simp, hg0, hrow, by simpa using hnc, hcm, by simp only [List.size_toArray, List.length_append, List.length_take, List.length_drop, Array.length_toList, hcl]; omega, by
        rw [List.length_set, ← htake, hkz1]
        have := splice_take cur.toList (k * z) (es.length * z) cs (by rw [hcl]; omega) (by simp only [Array.length_toList]; omega)
        rw [hcl] at this
        exact this⟩⟩,
      Rds.set es xs k u cs hz (Rds.mono C.hS C.hw _ _ m2) (c2.mono C.hS C.hw) hk⟩)
  refine ⟨.skip, _, ?_, .inr ⟨rfl, realz_put_none hf hN hd hH' C⟩⟩
  have hcells : (a.eval y).cells.toList = cs := by rw [c1]; exact val_cells c2
  have hsz : (a.eval y).cells.size = z := by rw [← hcl, ← hcells]; simp
  simp [execOp, Instr.storeAt, e2, Instr.sureAddr, storeVar, run_sizeOf hT, hsz, hcells, hst]

/-- An array of the call's own is let go: from here on it is data. -/
theorem Realz.freeze {a : Act} {w : World} {i e z ver : Nat} {es : List U} (hL : σ.L[i]? = some (.arr e z ver es)) (h : Realz A σ a w) : Realz A ⟨σ.fr, σ.L.set i (.frz e z ver es), σ.N⟩ a w := by
  obtain ⟨S, env, hH, hf, hN, hd⟩ := h
  have hi := (List.getElem?_eq_some_iff.1 hL).1
  have hie : i < env.length := by rw [hH.len]; exact hi
  obtain ⟨hv, he⟩ : ∃ hv, env[i]? = some hv := ⟨_, List.getElem?_eq_getElem hie⟩
  have hob := hH.objs i _ hv hL he
  let S' : Nat → Prop := fun b => S b ∨ blk hv = some b
  have hset : ∀ (j : Nat) (o' : LO), (σ.L.set i (.frz e z ver es))[j]? = some o' → (j = i ∧ o' = .frz e z ver es) ∨ (j ≠ i ∧ σ.L[j]? = some o') := by
    intro j o' hj
    by_cases hij : i = j
    · subst hij
      rw [List.getElem?_set_self hi] at hj
      exact .inl ⟨rfl, (Option.some.inj hj).symm⟩
    · rw [List.getElem?_set_ne hij] at hj
      exact .inr ⟨fun e => hij e.symm, hj⟩
  have C : Carry S σ.L env w S' (σ.L.set i (.frz e z ver es)) env w := by
    refine ⟨fun b hb _ => .inl hb, fun _ _ _ => rfl, fun _ _ h => h, fun j hv' o' h1 h2 => ?_⟩
    by_cases hij : i = j
    · subst hij
      rw [hL] at h2
      obtain rfl := Option.some.inj h2
      exact ⟨hv', .frz e z ver es, h1, by rw [List.getElem?_set_self hi], Nat.le_refl _, fun _ => rfl⟩
    · exact ⟨hv', o', h1, by rw [List.getElem?_set_ne hij]; exact h2, Nat.le_refl _, fun _ => rfl⟩
  refine ⟨S', env, ⟨by simp [hH.len], ?_, ?_, ?_, ?_, ?_, hH.frame, hH.size, hH.os, hH.tape, hH.output, hH.base.carry C hH.len (by simp), hH.glob⟩, fun t => SVr.carry C _ _ (hf t), hN, hd⟩
  · intro j o' hv' h1 h2
    rcases hset j o' h1 with ⟨rfl, rfl⟩ | ⟨hj, h3⟩
    · rw [he] at h2
      obtain rfl := Option.some.inj h2
      obtain ⟨hbg, hz, xs, m1, m2⟩ := hob
      have hmono : Rds S' w es xs := Rds.mono C.hS C.hw _ _ m2
      have : RdV S' w (.sl z es) hv := by
        rcases m1.2 with ⟨rfl, h0⟩ | ⟨g, cap, cur, rfl, hg0, hg, hnc, hcm, hcs, htake⟩
        · have : es = [] := List.eq_nil_of_length_eq_zero h0
          subst this
          exact ⟨[_], rfl, by simp only [Rd]; exact ⟨hbg, none, 0, rfl, .inl trivial⟩⟩
        · refine ⟨[.slice (some ⟨g, 0, none⟩) es.length cap], rfl, ?_⟩
          simp only [Rd]
          exact ⟨hbg, _, cap, rfl, .inr ⟨g, 0, rfl, .inr rfl, RdE.of_Rds es xs 0 hz hmono (owns_At m1 rfl)⟩⟩
      exact this
    · exact ObjR.carry C (fun _ _ _ => rfl) (hH.objs j o' hv' h3 h2)
  · intro j o' hv' b h1 hl h2 hb
    rcases hset j o' h1 with ⟨rfl, rfl⟩ | ⟨hj, h3⟩
    · cases hl
    · have := hH.excl j o' hv' b h3 hl h2 hb
      refine ⟨fun hs => hs.elim this.1 (fun hs => hj (hH.dist j i o' _ hv' hv b h3 hL hl rfl h2 he hb (show (LO.arr e z ver es).ft w hv b from hs))), this.2⟩
  · intro j j' o1 o1' hv1 hv1' k h1 h2 hl1 hl2 e1 e2 b1 b2
    rcases hset j o1 h1 with ⟨rfl, rfl⟩ | ⟨hj, h3⟩
    · cases hl1
    · rcases hset j' o1' h2 with ⟨rfl, rfl⟩ | ⟨hj', h3'⟩
      · cases hl2
      · exact hH.dist j j' o1 o1' hv1 hv1' k h3 h3' hl1 hl2 e1 e2 b1 b2
  · intro b hb
    rcases hb with hb | hb
    · exact hH.sS b hb
    · exact (hH.excl i _ hv b hL rfl he hb).2.2
  · intro b hb
    rcases hb with hb | hb
    · exact hH.sA b hb
    · exact .inr (hH.excl i _ hv b hL rfl he hb).2.1
end
end Go.Eng
