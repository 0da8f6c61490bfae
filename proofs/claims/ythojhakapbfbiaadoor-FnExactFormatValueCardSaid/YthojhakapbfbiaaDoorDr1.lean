/- strconv.Itoa and strings.Join as contracts of this engine; the specification's FormatInt. -/
import Derived.Test.YthojhakapbfbiaaDoorShelf
import Derived.Lib.ItoaLen
import Derived.Lib.AppendIntMem
set_option linter.unusedVariables false
set_option linter.unusedSimpArgs false
namespace Go.Proofs.YthojhakapbfbiaaDoor
open Go Go.Eng Go.RowKit
theorem t_Itoa (n : Int) (h : inRange n) : SpecP Tryd.prog 85 [.d (.i .i64 n)] [.s (Lib.itoa n)] := by
  have hl := Lib.itoa_length_le n h.1 h.2
  refine SpecP_str ⟨_, Tryd.func85, by kernel_rfl, by kernel_rfl⟩ (by rw [big_eq]; omega) fun S w vs hv hS hg => ?_
  match vs, hv with
  | [v], hv =>
    simp only [SVrs, and_true] at hv
    rw [SVr.int] at hv
    subst hv
    refine (Tryd.strconv_Itoa n h.1 h.2 w hg.1).mono ?_
    rintro e w' ⟨rfl, k, os, rfl⟩
    exact ⟨rfl, Lib.below_grow _ w (Nat.le_refl _) k os⟩
/-- What the library's Join gives; the list lies as it lay. -/
def joinL (l : List (List UInt8)) (sep : List UInt8) : List UInt8 × List (List UInt8) := (Lib.join l sep, l)
theorem t_Join (l : List (List UInt8)) (sep : List UInt8) (v : Nat) (h : (Lib.join l sep).length ≤ 4294967296) : Go.Eng.Spec Tryd.prog 86 [.sl 0 v, .d (.s sep)] [.own 9 1 v (eStrs l)] (fun sv Lo => ∃ v'0, sv = .d (.s (joinL l sep).1) ∧ Lo = [.own 9 1 v'0 (eStrs (joinL l sep).2)]) := by
  refine Spec_strL ⟨_, Tryd.func86, by kernel_rfl, by kernel_rfl⟩ (l := Lib.join l sep) (by rw [big_eq]; omega) ⟨v, rfl, rfl⟩ fun A S env w vs hH hv => ?_
  match vs, hv with
  | [a, b], hv =>
    simp only [SVrs, and_true] at hv
    obtain ⟨hv1, hv2⟩ := hv
    rw [SVr.str] at hv2
    obtain ⟨_, rfl⟩ := hv2
    simp only [SVr] at hv1
    obtain ⟨hv, o, k1, k2, k3, k5, k4⟩ := hv1
    simp only [List.getElem?_cons_zero, Option.some.injEq] at k2
    subst k2
    obtain rfl := k4 rfl
    obtain ⟨m1, m2, ⟨xs, m3, m4⟩, _⟩ := hH.objs 0 _ _ rfl k1
    have hlen : (eStrs l).length = l.length := Enc.len l
    rcases m3.2 with ⟨rfl, h0⟩ | ⟨g, cap, cur, rfl, r1, r2, r3, r4, r5, r6⟩
    · have : l = [] := List.eq_nil_of_length_eq_zero (by omega)
      subst this
      refine (Tryd.strings_Join_none none 0 _ w).mono ?_
      rintro e w' ⟨rfl, rfl⟩
      exact ⟨rfl, Below.refl _ _⟩
    · have hg : g < w.heap.size := (Array.getElem?_eq_some_iff.1 r2).1
      have key : ∀ (ls : List (List UInt8)) (cs : List Value), Trs w (eStrs ls) cs → ∀ (j : Nat) x, ls[j]? = some x → cs[j]? = some (.string ⟨x.toArray⟩) := by
        intro ls
        induction ls with
        | nil => intro cs _ j x h; simp at h
        | cons y ls ih =>
          intro cs hc j x hj
          simp only [eStrs, List.map_cons, Trs, Tr, U.sz] at hc
          obtain ⟨⟨_, c1⟩, c2⟩ := hc
          cases cs with
          | nil => simp at c1
          | cons c cs =>
            simp only [List.take_succ_cons, List.take_zero, List.cons.injEq, and_true, List.drop_succ_cons, List.drop_zero] at c1 c2
            cases j with
            | zero => simp only [List.getElem?_cons_zero, Option.some.injEq] at hj; subst hj; simp [c1]
            | succ j => simp only [List.getElem?_cons_succ] at hj ⊢; exact ih cs c2 j x hj
      have hmap : (l.map fun x => (⟨x.toArray⟩ : ByteArray)).map (·.data.toList) = l := by simp [Function.comp_def]
      have := Tryd.strings_Join g 0 cap (l.map fun x => ⟨x.toArray⟩) ⟨sep.toArray⟩ w (fun j x hj => ?_) hg (by rw [List.length_map, ← hlen]; rw [big_eq] at m1; exact m1) (by rw [List.length_map, ← hlen]; exact r3) (by rw [hmap]; simp only [List.toList_toArray]; omega)
      · rw [hmap, List.length_map, ← hlen] at this
        simp only [List.toList_toArray] at this
        exact this
      · rw [List.getElem?_map, Option.map_eq_some_iff] at hj
        obtain ⟨y, hy, rfl⟩ := hj
        have hx := m3.cells (g := g) rfl j _ (key l xs m4 j y hy)
        rcases Nat.eq_zero_or_pos j with h0 | h0
        · subst h0; simpa [Addr.add] using hx
        · have h0 : j ≠ 0 := by omega
          simpa [Addr.add, h0] using hx
end Go.Proofs.YthojhakapbfbiaaDoor
