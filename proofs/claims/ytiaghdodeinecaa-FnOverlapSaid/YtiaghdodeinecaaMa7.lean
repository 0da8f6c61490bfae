/- Ma4. Written by a program of mine (aw.py). -/
import Derived.Test.YtiaghdodeinecaaEng43
import Derived.Test.YtiaghdodeinecaaMe1
import Derived.Test.YtiaghdodeinecaaMa2
import Derived.Test.YtiaghdodeinecaaTh2
import Derived.Test.YtiaghdodeinecaaMt
import Derived.Test.YtiaghdodeinecaaUm4
set_option linter.unusedVariables false
set_option linter.unusedSimpArgs false
set_option linter.unusedSectionVars false
namespace Go.Proofs.Ytiaghdodeinecaa
open Go Go.Eng
attribute [local irreducible] V VO VQ VY Quiet QR SpecP SpecO Rng PostP PostO PostG
/-! ### renaming apart, by hand -/
def frs (u : List (List UInt8)) : Nat → List UInt8 → List UInt8
  | 0, n => n
  | k + 1, n => if n ∈ u then frs u k (n ++ [122]) else n
theorem frs_all (u : List (List UInt8)) : ∀ (m : Nat) (n : List UInt8), frs u m n ∈ u → ∀ i, i ≤ m → n ++ List.replicate i 122 ∈ u
  | 0, n, h, i, hi => by
    have : i = 0 := by omega
    subst this
    simpa [frs] using h
  | m + 1, n, h, i, hi => by
    simp only [frs] at h
    by_cases hn : n ∈ u
    · rw [if_pos hn] at h
      cases i with
      | zero => simpa using hn
      | succ i =>
        have := frs_all u m (n ++ [122]) h i (by omega)
        rw [List.append_assoc] at this
        simpa [List.replicate_succ] using this
    · rw [if_neg hn] at h
      exact absurd h hn
theorem frs_out (u : List (List UInt8)) (n : List UInt8) : frs u u.length n ∉ u := fun h => by
  have h1 := frs_all u u.length n h
  have hnd : ((List.range (u.length + 1)).map fun i => n ++ List.replicate i (122 : UInt8)).Nodup := by
    refine List.pairwise_map.2 (List.Pairwise.imp ?_ List.nodup_range)
    intro i j hij e
    have := congrArg List.length e
    simp at this
    exact hij this
  have := nodup_le hnd (fun v hv => by
    obtain ⟨i, hi, rfl⟩ := List.mem_map.1 hv
    exact h1 i (by have := List.mem_range.1 hi; omega))
  simp at this
  omega
theorem ren_l2 (u : List (List UInt8)) (K : List UInt8 → Option (List TBinding)) : ∀ (m f : Nat) (n : List UInt8), m < f → frs u m n ∉ u → n.length + m ≤ 4000000 → b_renApart_l2 u K f n = K (frs u m n)
  | m, 0, n, h, _, _ => by omega
  | 0, f + 1, n, _, h, _ => by
    simp only [frs] at h ⊢
    simp only [b_renApart_l2, ContainsS_eq, decide_eq_false h, cnd_false]
  | m + 1, f + 1, n, hf, h, hl => by
    simp only [frs] at h ⊢
    simp only [b_renApart_l2, ContainsS_eq]
    by_cases hn : n ∈ u
    · rw [if_pos hn] at h ⊢
      rw [decide_eq_true hn, cnd_true, gd_eq (by simp; omega)]
      exact ren_l2 u K m f _ (by omega) h (by simp; omega)
    · rw [if_neg hn] at h ⊢
      rw [decide_eq_false hn, cnd_false]
theorem sap_l2 (u : List (List UInt8)) (K : List UInt8 → Option TType) : ∀ (m f : Nat) (n : List UInt8), m < f → frs u m n ∉ u → n.length + m ≤ 4000000 → b_sApart_l2 u K f n = K (frs u m n)
  | m, 0, n, h, _, _ => by omega
  | 0, f + 1, n, _, h, _ => by
    simp only [frs] at h ⊢
    simp only [b_sApart_l2, l1Has_eq, decide_eq_false h, cnd_false]
  | m + 1, f + 1, n, hf, h, hl => by
    simp only [frs] at h ⊢
    simp only [b_sApart_l2, l1Has_eq]
    by_cases hn : n ∈ u
    · rw [if_pos hn] at h ⊢
      rw [decide_eq_true hn, cnd_true, gd_eq (by simp; omega)]
      exact sap_l2 u K m f _ (by omega) h (by simp; omega)
    · rw [if_neg hn] at h ⊢
      rw [decide_eq_false hn, cnd_false]
def apB (va : List (List UInt8)) : List (List UInt8) → List (List UInt8) → List TBinding → List TBinding
  | [], _, y => y
  | v :: vs, u, y => if v ∈ va then apB va vs (u ++ [frs u u.length v]) (y ++ [⟨v, vr (frs u u.length v)⟩]) else apB va vs u y
theorem ren_l1 (a0 : List TType) (va : List (List UInt8)) (hva : b_variablesOf a0 = some va) : ∀ (vs u : List (List UInt8)) (y : List TBinding), u.length + vs.length < 900 → y.length + vs.length ≤ 100000 → (∀ v ∈ vs, v ∈ va → v.length ≤ 1000000) → b_renApart_l1 a0 1000 vs u y = some (apB va vs u y)
  | [], u, y, _, _, _ => rfl
  | v :: vs, u, y, h, hy, hv => by
    simp only [List.length_cons] at h hy
    simp only [b_renApart_l1, apB]
    rw [bnd_eq hva, ContainsS_eq]
    by_cases hm : v ∈ va
    · have hv0 := hv v (by simp) hm
      rw [if_pos hm, decide_eq_true hm, Bool.not_true, cnd_false, ren_l2 u _ u.length 1000 v (by omega) (frs_out u v) (by omega), gd_eq (by simp; omega)]
      simp only [lt_, b_varType]
      rw [gd_eq (by simp; omega)]
      exact ren_l1 a0 va hva vs _ _ (by simp; omega) (by simp; omega) (fun w hw => hv w (by simp [hw]))
    · rw [if_neg hm, decide_eq_false hm, Bool.not_false, cnd_true]
      exact ren_l1 a0 va hva vs u y (by omega) (by omega) (fun w hw => hv w (by simp [hw]))
theorem frs_step (u : List (List UInt8)) (v : List UInt8) (hv : v ∈ u) : frs u u.length v = frs u (u.length - 1) (v ++ [122]) := by
  have : 0 < u.length := List.length_pos_of_mem hv
  obtain ⟨m, hm⟩ : ∃ m, u.length = m + 1 := ⟨u.length - 1, by omega⟩
  rw [hm, frs, if_pos hv]
  rfl
theorem apB_rng (va : List (List UInt8)) : ∀ (vs u : List (List UInt8)) (y : List TBinding), (∀ b ∈ y, ∃ s, b.type_ = vr s) → ∀ b ∈ apB va vs u y, ∃ s, b.type_ = vr s
  | [], _, y, h => h
  | v :: vs, u, y, h => by
    simp only [apB]
    split
    · refine apB_rng va vs _ _ fun b hb => ?_
      rcases List.mem_append.1 hb with hb | hb
      · exact h b hb
      · simp at hb; subst hb; exact ⟨_, rfl⟩
    · exact apB_rng va vs u y h
theorem sap_l1 (t : TType) (ht : tok t) (va : List (List UInt8)) : ∀ (vs u : List (List UInt8)) (y : List TBinding), u.length + vs.length < 900 → y.length + vs.length ≤ 100000 → (∀ v ∈ vs, v ∈ va → v.length ≤ 1000000) → (∀ v ∈ vs, v ∈ u) → (∀ b ∈ y, ∃ s, b.type_ = vr s) → b_sApart_l1 t va 1000 vs u y = some (apT (apB va vs u y) t)
  | [], u, y, _, _, _, _, hy => by
    have hb : bok y := fun b hb => by obtain ⟨s, hs⟩ := hy b hb; rw [hs]; exact tok_nil _ _
    simp only [b_sApart_l1, apB, lt_]
    rw [gd_eq ⟨hb, ht⟩]
  | v :: vs, u, y, h, hl, hv, hu, hy => by
    simp only [List.length_cons] at h hl
    have hu0 := hu v (by simp)
    simp only [b_sApart_l1, apB]
    rw [l1Has_eq]
    by_cases hm : v ∈ va
    · have hv0 := hv v (by simp) hm
      have hf := frs_out u v
      rw [frs_step u v hu0] at hf
      rw [if_pos hm, decide_eq_true hm, Bool.not_true, cnd_false, gd_eq (by simp; omega), sap_l2 u _ (u.length - 1) 1000 (v ++ [122]) (by omega) hf (by simp; omega), ← frs_step u v hu0, gd_eq (by simp; omega)]
      simp only [lt_, b_sVar]
      rw [gd_eq (by simp; omega)]
      refine sap_l1 t ht va vs _ _ (by simp; omega) (by simp; omega) (fun w hw => hv w (by simp [hw])) (fun w hw => List.mem_append.2 (.inl (hu w (by simp [hw])))) fun b hb => ?_
      rcases List.mem_append.1 hb with hb | hb
      · exact hy b hb
      · simp at hb; subst hb; exact ⟨_, rfl⟩
    · rw [if_neg hm, decide_eq_false hm, Bool.not_false, cnd_true]
      exact sap_l1 t ht va vs u y (by omega) (by omega) (fun w hw => hv w (by simp [hw])) (fun w hw => hu w (by simp [hw])) hy
/-- The renaming is one. -/
theorem apB_keep (va : List (List UInt8)) {v : List UInt8} : ∀ (vs u : List (List UInt8)) (y : List TBinding), (lkp v y).2 = true → lkp v (apB va vs u y) = lkp v y
  | [], _, _, _ => rfl
  | w :: vs, u, y, h => by
    simp only [apB]
    split
    · rw [apB_keep va vs _ _ (by rw [lkp_app, h, cnd_true]; exact h), lkp_app, h, cnd_true]
    · exact apB_keep va vs u y h
theorem apB_in (va : List (List UInt8)) {v : List UInt8} (hm : v ∈ va) : ∀ (vs u : List (List UInt8)) (y : List TBinding), v ∈ vs → (lkp v y).2 = false → ∃ s, lkp v (apB va vs u y) = (vr s, true) ∧ s ∉ u
  | [], _, _, h, _ => by simp at h
  | w :: vs, u, y, h, hy => by
    simp only [apB]
    by_cases e : w = v
    · subst e
      rw [if_pos hm]
      have hl : lkp w (y ++ [⟨w, vr (frs u u.length w)⟩]) = (vr (frs u u.length w), true) := by rw [lkp_app, hy, cnd_false, lkp_hit]
      refine ⟨frs u u.length w, ?_, frs_out u w⟩
      rw [apB_keep va vs _ _ (by rw [hl]), hl]
    · have h' : v ∈ vs := (List.mem_cons.1 h).resolve_left (fun e' => e e'.symm)
      split
      · obtain ⟨s, h1, h2⟩ := apB_in va hm vs (u ++ [frs u u.length w]) (y ++ [⟨w, vr (frs u u.length w)⟩]) h' (by rw [lkp_app, hy, cnd_false]; exact lkp_mis _ e)
        exact ⟨s, h1, fun hs => h2 (List.mem_append.2 (.inl hs))⟩
      · exact apB_in va hm vs u y h' hy
theorem apB_out (va : List (List UInt8)) {v : List UInt8} : ∀ (vs u : List (List UInt8)) (y : List TBinding), ¬ (v ∈ vs ∧ v ∈ va) → (lkp v y).2 = false → (lkp v (apB va vs u y)).2 = false
  | [], _, _, _, hy => hy
  | w :: vs, u, y, h, hy => by
    simp only [apB]
    have h' : ¬ (v ∈ vs ∧ v ∈ va) := fun e => h ⟨by simp [e.1], e.2⟩
    split
    · rename_i hm
      have e : w ≠ v := fun e => h ⟨by simp [e], e ▸ hm⟩
      exact apB_out va vs _ _ h' (by rw [lkp_app, hy, cnd_false]; exact lkp_mis _ e)
    · exact apB_out va vs u y h' hy
theorem apB_inj (va : List (List UInt8)) : ∀ (vs u : List (List UInt8)) (y : List TBinding), (∀ a b s, lkp a y = (vr s, true) → lkp b y = (vr s, true) → a = b) → (∀ a s, lkp a y = (vr s, true) → s ∈ u) → ∀ a b s, lkp a (apB va vs u y) = (vr s, true) → lkp b (apB va vs u y) = (vr s, true) → a = b
  | [], _, _, h, _ => h
  | w :: vs, u, y, h, hu => by
    simp only [apB]
    split
    · have key : ∀ a s, lkp a (y ++ [⟨w, vr (frs u u.length w)⟩]) = (vr s, true) → lkp a y = (vr s, true) ∨ (a = w ∧ s = frs u u.length w) := by
        intro a s ha
        rw [lkp_app] at ha
        cases hb : (lkp a y).2 with
        | true => rw [hb, cnd_true] at ha; exact .inl ha
        | false =>
          rw [hb, cnd_false] at ha
          by_cases e : w = a
          · subst e
            rw [lkp_hit] at ha
            simp only [Prod.mk.injEq, and_true, vr, TType.mk.injEq, true_and] at ha
            exact .inr ⟨rfl, ha.symm⟩
          · have := lkp_mis (vr (frs u u.length w)) e
            rw [ha] at this
            cases this
      refine apB_inj va vs _ _ (fun a b s ha hb => ?_) (fun a s ha => ?_)
      · rcases key a s ha with h1 | ⟨rfl, h1⟩ <;> rcases key b s hb with h2 | ⟨rfl, h2⟩
        · exact h a b s h1 h2
        · exact absurd (hu a s h1) (h2 ▸ frs_out u _)
        · exact absurd (hu b s h2) (h1 ▸ frs_out u _)
        · rfl
      · rcases key a s ha with h1 | ⟨rfl, rfl⟩
        · exact List.mem_append.2 (.inl (hu a s h1))
        · simp
    · exact apB_inj va vs u y h hu
theorem onceS_mem (x : List UInt8) : ∀ (xs y : List (List UInt8)), x ∈ onceS xs y ↔ x ∈ xs ∨ x ∈ y
  | [], y => by simp [onceS]
  | z :: xs, y => by
    simp only [onceS]
    split
    · rename_i hz
      rw [onceS_mem x xs y]
      constructor
      · rintro (h | h)
        · exact .inl (by simp [h])
        · exact .inr h
      · rintro (h | h)
        · rcases List.mem_cons.1 h with rfl | h
          · exact .inr hz
          · exact .inl h
        · exact .inr h
    · rw [onceS_mem x xs _]
      simp only [List.mem_append, List.mem_cons, List.not_mem_nil, or_false]
      constructor
      · rintro (h | h | h)
        · exact .inl (.inr h)
        · exact .inr h
        · exact .inl (.inl h)
      · rintro ((h | h) | h)
        · exact .inr (.inr h)
        · exact .inl h
        · exact .inr (.inl h)
theorem onceS_len : ∀ (xs y : List (List UInt8)), (onceS xs y).length ≤ xs.length + y.length
  | [], y => by simp [onceS]
  | z :: xs, y => by
    simp only [onceS]
    split
    · have := onceS_len xs y; simp; omega
    · have := onceS_len xs (y ++ [z]); simp at this ⊢; omega
theorem onceS_app : ∀ (xs zs y : List (List UInt8)), onceS (xs ++ zs) y = onceS zs (onceS xs y)
  | [], zs, y => rfl
  | x :: xs, zs, y => by
    simp only [List.cons_append, onceS]
    split <;> exact onceS_app xs zs _
/-- The renaming of b's variables apart from a's. -/
def renOf (va vb : List (List UInt8)) : List TBinding := apB va vb (onceS (va ++ vb) []) []
theorem renOf_ren (va vb : List (List UInt8)) : Ren va vb (renOf va vb) := by
  have hout : ∀ s, s ∉ onceS (va ++ vb) [] → s ∉ va ∧ s ∉ vb := fun s hs => ⟨fun h => hs ((onceS_mem s _ _).2 (.inl (List.mem_append.2 (.inl h)))), fun h => hs ((onceS_mem s _ _).2 (.inl (List.mem_append.2 (.inr h))))⟩
  refine ⟨fun v hv hm => ?_, fun v h => apB_out va vb _ [] h rfl, apB_inj va vb _ [] (fun a b s h => by simp [lkp] at h) (fun a s h => by simp [lkp] at h)⟩
  obtain ⟨s, h1, h2⟩ := apB_in va hm vb (onceS (va ++ vb) []) [] hv rfl
  exact ⟨s, h1, hout s h2⟩
theorem renOf_rng (va vb : List (List UInt8)) : ∀ b ∈ renOf va vb, ∃ s, b.type_ = vr s := apB_rng va vb _ [] (fun b hb => by simp at hb)
theorem renOf_bok (va vb : List (List UInt8)) : bok (renOf va vb) := fun b hb => by obtain ⟨s, hs⟩ := renOf_rng va vb b hb; rw [hs]; exact tok_nil _ _
theorem sunion_l2 : ∀ (xs y : List (List UInt8)), y.length + xs.length ≤ 4000000 → b_sUnion_l2 xs y = some (onceS xs y)
  | [], y, _ => rfl
  | x :: xs, y, h => by
    simp only [List.length_cons] at h
    simp only [b_sUnion_l2, onceS, l1Has_eq]
    by_cases hx : x ∈ y
    · simp only [hx, decide_true, Bool.not_true, cnd_false, if_true]
      exact sunion_l2 xs y (by omega)
    · simp only [hx, decide_false, Bool.not_false, cnd_true, if_false]
      rw [gd_eq (by simp; omega)]
      exact sunion_l2 xs _ (by simp; omega)
theorem sunion_l1 (zs : List (List UInt8)) : ∀ (xs y : List (List UInt8)), y.length + xs.length + zs.length ≤ 4000000 → b_sUnion_l1 zs xs y = some (onceS zs (onceS xs y))
  | [], y, h => sunion_l2 zs y (by simp at h; omega)
  | x :: xs, y, h => by
    simp only [List.length_cons] at h
    simp only [b_sUnion_l1, onceS, l1Has_eq]
    by_cases hx : x ∈ y
    · simp only [hx, decide_true, Bool.not_true, cnd_false, if_true]
      exact sunion_l1 zs xs y (by omega)
    · simp only [hx, decide_false, Bool.not_false, cnd_true, if_false]
      rw [gd_eq (by simp; omega)]
      exact sunion_l1 zs xs _ (by simp; omega)
/-- Names that are not too long. -/
def Shn (va : List (List UInt8)) (t : TType) : Prop := ∀ v ∈ tvs t, v ∈ va → v.length ≤ 1000000
theorem varsT_sub (t : TType) : ∀ v ∈ varsT t [], v ∈ tvs t := fun v hv => ((varsT_mem v t []).1 hv).resolve_left (by simp)
theorem iren_eq (a b : TType) (ha : tnd a ≤ 4000) (hb : tnd b ≤ 4000) (na : (varsT a []).length ≤ 200) (nb : (varsT b []).length ≤ 200) (hs : Shn (varsT a []) b) : renApartT [a] [b] = some (renOf (varsT a []) (varsT b [])) := by
  unfold renApartT b_renApart
  rw [bnd_eq (variablesOf_eq a (by omega)), variablesOf_eq b (by omega)]
  simp only [bnd]
  rw [union_eq _ _ (by omega) (by omega)]
  have hl := onceS_len (varsT a [] ++ varsT b []) []
  rw [List.length_append] at hl
  simp only [List.length_nil, Nat.add_zero] at hl
  exact ren_l1 [a] _ (variablesOf_eq a (by omega)) _ _ _ (by omega) (by simp; omega) (fun v hv => hs v (varsT_sub b v hv))
theorem sren_eq (a b : TType) (ha : tnd a ≤ 4000) (hb : tnd b ≤ 4000) (na : (varsT a []).length ≤ 200) (nb : (varsT b []).length ≤ 200) (hs : Shn (varsT a []) b) (ht : tok b) : sApartT b (varsT a []) = some (apT (renOf (varsT a []) (varsT b [])) b) := by
  have hl := onceS_len (varsT a [] ++ varsT b []) []
  rw [List.length_append] at hl
  simp only [List.length_nil, Nat.add_zero] at hl
  have hu : b_sUnion (varsT a []) (varsT b []) = some (onceS (varsT a [] ++ varsT b []) []) := by
    unfold b_sUnion
    rw [sunion_l1 _ _ [] (by simp; omega), onceS_app]
  unfold sApartT b_sApart
  rw [bnd_eq (sTV_eq b (by omega)), bnd_eq hu]
  exact sap_l1 b ht _ _ _ [] (by omega) (by simp; omega) (fun v hv => hs v (varsT_sub b v hv)) (fun v hv => (onceS_mem v _ _).2 (.inl (List.mem_append.2 (.inr hv)))) (fun b hb => by simp at hb)
end Go.Proofs.Ytiaghdodeinecaa
set_option linter.unusedVariables false
set_option linter.unusedSimpArgs false
set_option linter.unusedSectionVars false
namespace Go.Proofs.Ytiaghdodeinecaa
open Go Go.Eng
attribute [local irreducible] V VO VQ VY Quiet QR SpecP SpecO Rng PostP PostO PostG
/-! ### unification with a solution at hand -/
/-! ### an instance against its pattern, by hand (the instance may hold variables with arguments) -/
section
variable {V va : List (List UInt8)} {γ : List UInt8 → TType} {φ : List UInt8 → List UInt8} {l : List TBinding}
end
end Go.Proofs.Ytiaghdodeinecaa
set_option linter.unusedVariables false
set_option linter.unusedSimpArgs false
set_option linter.unusedSectionVars false
namespace Go.Proofs.Ytiaghdodeinecaa
open Go Go.Eng
attribute [local irreducible] V VO VQ VY Quiet QR SpecP SpecO Rng PostP PostO PostG
/-! ### what the programs answer -/
theorem l6Copy_l1_eq : ∀ (xs y : List TBinding), (∀ b ∈ xs, tok b.type_) → y.length + xs.length ≤ 4000000 → b_l6Copy_l1 xs y = some (y ++ xs)
  | [], y, _, _ => by simp [b_l6Copy_l1]
  | x :: xs, y, h1, h2 => by
    simp only [List.length_cons] at h2
    simp only [b_l6Copy_l1, lt_, idT]
    rw [gd_eq (h1 x (by simp)), gd_eq (by simp; omega), l6Copy_l1_eq xs _ (fun b hb => h1 b (by simp [hb])) (by simp; omega)]
    simp
/-- What both programs answer at a pair. -/
def Ver (a b : TType) (v : Bool) : Prop := (∃ x, b_iUnifyF a b = some (x, v)) ∧ ∃ y, b_sUnifyF a b = some (y, v)
theorem verdict {a b : TType} {s : Prop} (h : Res 50000 [a] [b] s) : ∃ v, Ver a b v ∧ (v = true → ∃ l, apT l a = apT l b) ∧ (tna a → tna b → ∀ q, apT q a = apT q b → v = true) ∧ (s → v = true) := by
  obtain ⟨r, p, q1, q2, q3, q4, q5, q6⟩ := h
  have q2' : m_sAll 100000 [a] [b] [] = some p := q2
  have hl1 : ((([a] : List TType).length : Int) != ([b] : List TType).length) = false := by simp
  have hI : b_iUnifyF a b = some ((resI r).2, (resI r).1) := by
    unfold b_iUnifyF b_iUnifyAll unifyNil
    rw [hl1, q1]
    rfl
  refine ⟨r.isSome, ⟨?_, ?_⟩, fun hv => ?_, fun h1 h2 q hq => ?_, fun hs => ?_⟩
  · cases r with
    | none => exact ⟨_, hI⟩
    | some l => exact ⟨_, hI⟩
  · unfold b_sUnifyF b_sUnifyAll
    rw [hl1, q2']
    cases r with
    | none =>
      have e : p.2 = false := q3
      simp only [cnd_false, bnd, e, Bool.not_false, cnd_true]
      exact ⟨_, rfl⟩
    | some l =>
      have e : p = (l, true) := q3
      subst e
      obtain ⟨w1, w2, _⟩ := q4 l rfl
      simp only [cnd_false, bnd, Bool.not_true]
      unfold b_l6Copy
      rw [l6Copy_l1_eq l [] w1 (by simp; omega)]
      exact ⟨_, rfl⟩
  · cases r with
    | none => cases hv
    | some l =>
      obtain ⟨_, _, w⟩ := q4 l rfl
      exact ⟨l, by simpa [apTs] using w⟩
  · cases r with
    | none => exact absurd rfl (q5 (by simp [tnas, h1]) (by simp [tnas, h2]) q (by simp [apTs, hq]))
    | some l => rfl
  · cases r with
    | none => exact absurd rfl (q6 hs)
    | some l => rfl
/-- What is asked of a pair: not too great. -/
structure Fit (a b : TType) : Prop where
  oa : tok a
  ob : tok b
  sa : tnd a ≤ 1000
  sb : tnd b ≤ 1000
  ca : (varsT a []).length ≤ 4
  cb : (varsT b []).length ≤ 4
  short : Shn (varsT a []) b
def rn2 (a b : TType) : List TBinding := renOf (varsT a []) (varsT b [])
theorem unifiable {a b : TType} (h : Fit a b) {v : Bool} (hv : Ver a (apT (rn2 a b) b) v) : b_iUnifiable a b = some v ∧ b_sUnifiable a b = some v := by
  have s1 := h.sa
  have s2 := h.sb
  have c1 := h.ca
  have c2 := h.cb
  obtain ⟨⟨x, e1⟩, ⟨y, e2⟩⟩ := hv
  unfold rn2 at e1 e2
  refine ⟨?_, ?_⟩
  · unfold b_iUnifiable
    rw [bnd_eq (iren_eq a b (by omega) (by omega) (by omega) (by omega) h.short), gd_eq ⟨renOf_bok _ _, h.ob⟩]
    simp only [lt_]
    rw [bnd_eq e1]
  · unfold b_sUnifiable
    rw [bnd_eq (sTV_eq a (by omega)), bnd_eq (sren_eq a b (by omega) (by omega) (by omega) (by omega) h.short h.ob), bnd_eq e2]
mutual
theorem varsT_nodup : ∀ (t : TType) (l : List (List UInt8)), l.Nodup → (varsT t l).Nodup
  | ⟨k, n, ts⟩, l, h => by
    simp only [varsT]
    refine varsTs_nodup ts _ ?_
    unfold addVar
    split
    · rename_i hc
      exact List.nodup_append.2 ⟨h, by simp, fun a ha b hb hab => by simp at hb; subst hb; subst hab; exact hc.2 ha⟩
    · exact h
theorem varsTs_nodup : ∀ (ts : List TType) (l : List (List UInt8)), l.Nodup → (varsTs ts l).Nodup
  | [], l, h => h
  | a :: ts, l, h => varsTs_nodup ts _ (varsT_nodup a l h)
end
theorem vars_few {t : TType} {V : List (List UInt8)} (h : ∀ v ∈ tvs t, v ∈ V) : (varsT t []).length ≤ V.length := nodup_le (varsT_nodup t [] List.nodup_nil) (fun v hv => h v (varsT_sub t v hv))
theorem vars_in (t : TType) : ∀ v ∈ tvs t, v ∈ varsT t [] := fun v hv => (varsT_mem v t []).2 (.inr hv)
mutual
theorem tvs_ap2 {l : List TBinding} {v : List UInt8} : ∀ (t : TType), v ∈ tvs (apT l t) → (v ∈ tvs t ∧ v ∉ dom l) ∨ ∃ u ∈ tvs t, (lkp u l).2 = true ∧ v ∈ tvs (lkp u l).1
  | ⟨k, n, ts⟩, h => by
    have key : v ∈ tvss (apTs l ts) → (v ∈ tvs ⟨k, n, ts⟩ ∧ v ∉ dom l) ∨ ∃ u ∈ tvs ⟨k, n, ts⟩, (lkp u l).2 = true ∧ v ∈ tvs (lkp u l).1 := fun h => by
      rcases tvss_ap2 ts h with ⟨h1, h2⟩ | ⟨u, h1, h2⟩
      · exact .inl ⟨by simp [tvs, h1], h2⟩
      · exact .inr ⟨u, by simp [tvs, h1], h2⟩
    by_cases hk : k = 1
    · subst hk
      cases hb : (lkp n l).2 with
      | true =>
        rw [apT_var1 _ _ _ hb] at h
        exact .inr ⟨n, by simp [tvs], hb, h⟩
      | false =>
        rw [apT_var0 _ _ _ hb] at h
        simp only [tvs, if_true, List.mem_append, List.mem_singleton] at h
        rcases h with rfl | h
        · exact .inl ⟨by simp [tvs], lkp_no2 hb⟩
        · exact key h
    · rw [apT_con _ _ _ _ hk] at h
      exact key (by simpa [tvs, hk] using h)
theorem tvss_ap2 {l : List TBinding} {v : List UInt8} : ∀ (ts : List TType), v ∈ tvss (apTs l ts) → (v ∈ tvss ts ∧ v ∉ dom l) ∨ ∃ u ∈ tvss ts, (lkp u l).2 = true ∧ v ∈ tvs (lkp u l).1
  | [], h => by simp [apTs, tvss] at h
  | a :: ts, h => by
    simp only [apTs, tvss, List.mem_append] at h
    rcases h with h | h
    · rcases tvs_ap2 a h with ⟨h1, h2⟩ | ⟨u, h1, h2⟩
      · exact .inl ⟨by simp [tvss, h1], h2⟩
      · exact .inr ⟨u, by simp [tvss, h1], h2⟩
    · rcases tvss_ap2 ts h with ⟨h1, h2⟩ | ⟨u, h1, h2⟩
      · exact .inl ⟨by simp [tvss, h1], h2⟩
      · exact .inr ⟨u, by simp [tvss, h1], h2⟩
end
/-- Names after a renaming. -/
theorem ren_tvs {va vb : List (List UInt8)} {t : TType} (ht : ∀ v ∈ tvs t, v ∈ vb) : ∀ w ∈ tvs (apT (renOf va vb) t), ∃ v ∈ vb, w = phi (renOf va vb) v := fun w hw => by
  have R := renOf_ren va vb
  rcases tvs_ap2 t hw with ⟨h1, h2⟩ | ⟨u, h1, h2, h3⟩
  · refine ⟨w, ht w h1, ?_⟩
    unfold phi
    rw [lkp_out h2, cnd_false]
  · have hin : u ∈ vb ∧ u ∈ va := Classical.byContradiction fun hc => by
      have := R.out u hc
      rw [h2] at this
      cases this
    obtain ⟨s, q1, q2, q3⟩ := R.rng u hin.1 hin.2
    rw [q1] at h3
    refine ⟨u, hin.1, ?_⟩
    unfold phi
    rw [q1, cnd_true]
    simpa [vr, tvs, tvss] using h3
theorem ren_size {va vb : List (List UInt8)} (t : TType) : tnd (apT (renOf va vb) t) ≤ tnd t := by
  have := apT_tnd (M := 1) ⟨by decide, fun b hb => by obtain ⟨s, hs⟩ := renOf_rng va vb b hb; rw [hs]; simp [vr, tnd, tnds]⟩ t
  omega
section
variable {a b : TType} {σ : List TBinding}
/-- The names that come up at a pair. -/
def VV (a b : TType) : List (List UInt8) := varsT a [] ++ varsT b []
theorem good_l {a b : TType} (ho : tok a) (hs : tnd a ≤ 4000) : Good (VV a b) a := ⟨fun v hv => List.mem_append.2 (.inl (vars_in a v hv)), hs, ho⟩
theorem good_r {a b : TType} (ho : tok b) (hs : tnd b ≤ 4000) : Good (VV a b) b := ⟨fun v hv => List.mem_append.2 (.inr (vars_in b v hv)), hs, ho⟩
theorem ren_few (a b : TType) (n : Nat) (h : (varsT b []).length ≤ n) : (varsT (apT (rn2 a b) b) []).length ≤ n := by
  have := vars_few (t := apT (rn2 a b) b) (V := (varsT b []).map (phi (rn2 a b))) (fun w hw => by
    obtain ⟨v, h1, h2⟩ := ren_tvs (vars_in b) w hw
    rw [h2]
    exact List.mem_map_of_mem h1)
  rw [List.length_map] at this
  omega
theorem ren_tna (nb : tna b) : tna (apT (rn2 a b) b) := apT_tna (fun c hc => by obtain ⟨s, hs⟩ := renOf_rng _ _ c hc; rw [hs]; simp [vr, tna, tnas]) b nb
theorem Fr.ren (h : Fr 3 b) : Fr 3 (apT (rn2 a b) b) := by
  have hv : ∀ {d : Nat} {t : TType}, Ty2 d t → (∀ v ∈ tvs t, v ∈ tvs b) → Ty2 d (apT (rn2 a b) t) := fun ht hs => by
    have := ht.ap (s := rn2 a b) (e := 0) (fun v hv => by
      have := (renOf_ren (varsT a []) (varsT b [])).var (vars_in b v (hs v hv))
      rw [show apT (rn2 a b) (vr v) = _ from this]
      exact .var _)
    simpa using this
  cases h with
  | ty h => exact .ty (hv h (fun v hv => hv))
  | proj s h =>
    rw [apT_con _ _ _ _ (by decide)]
    exact .proj s (hv h (fun v hv => by simp [tvs, tvss, hv]))
  | lproj s r h =>
    rw [apT_con _ _ _ _ (by decide)]
    simp only [apTs]
    rw [apT_con _ _ _ _ (by decide)]
    exact .lproj s r (hv h (fun v hv => by simp [tvs, tvss, hv]))
  | dyn s =>
    rw [apT_con _ _ _ _ (by decide)]
    exact .dyn s
/-- Two free types. -/
theorem freeV (ha : Fr 3 a) (hb : Fr 3 b) (h : Fit a b) (ca : (varsT a []).length ≤ 2) (cb : (varsT b []).length ≤ 2) : ∃ v, Ver a (apT (rn2 a b) b) v ∧ (v = true ↔ Meet a b) := by
  have na := ha.tna
  have nb := hb.tna
  have hz := ren_size (va := varsT a []) (vb := varsT b []) b
  have hV : (VV a (apT (rn2 a b) b)).length ≤ 4 := by
    have c2 := ren_few a b 2 cb
    simp only [VV, List.length_append]
    omega
  have sa := h.sa
  have sb := h.sb
  have ob' : tok (apT (rn2 a b) b) := apT_tok (renOf_bok _ _) _ h.ob
  have hR := root hV 30000 (a := a) (b := apT (rn2 a b) b) (by omega) ha hb.ren (good_l h.oa (by omega)) (good_r ob' (by unfold rn2; omega)) (by unfold rn2; omega)
  obtain ⟨v, h1, h2, h3, _⟩ := verdict hR
  refine ⟨v, h1, fun hv => ?_, fun hm => ?_⟩
  · obtain ⟨l, hl⟩ := h2 hv
    exact sol_meet (renOf_ren (varsT a []) (varsT b [])) na nb (vars_in b) hl
  · obtain ⟨f, g, e⟩ := hm
    obtain ⟨s, s1, s2⟩ := meet_sol (renOf_ren (varsT a []) (varsT b [])) na nb (vars_in a) (vars_in b) e
    exact h3 na (ren_tna nb) s (s1.trans s2.symm)
end
end Go.Proofs.Ytiaghdodeinecaa
set_option linter.unusedVariables false
set_option linter.unusedSimpArgs false
set_option linter.unusedSectionVars false
namespace Go.Proofs.Ytiaghdodeinecaa
open Go Go.Eng
attribute [local irreducible] V VO VQ VY Quiet QR SpecP SpecO Rng PostP PostO PostG
/-! ### the law FnMeets -/
theorem fit_of {a b : TType} {Va Vb : List (List UInt8)} {M N : Nat} (ha : Dr Va M a) (hb : Dr Vb N b) (hM : M ≤ 1000) (hN : N ≤ 1000) (cA : Va.length ≤ 4) (cB : Vb.length ≤ 4) (hs : (∀ v ∈ Va, v.length ≤ 100) ∨ (∀ v ∈ Vb, v.length ≤ 100)) : Fit a b := by
  have s1 := ha.sz
  have s2 := hb.sz
  refine ⟨ha.ok, hb.ok, by omega, by omega, Nat.le_trans (vars_few ha.vs) cA, Nat.le_trans (vars_few hb.vs) cB, fun v hv hm => ?_⟩
  rcases hs with hs | hs
  · have := hs v (ha.vs v (varsT_sub a v hm)); omega
  · have := hs v (hb.vs v hv); omega
theorem ap_sub {v w : List UInt8} {y : TType} : apT [⟨v, y⟩] (vr w) = if w = v then y else vr w := by
  by_cases e : w = v
  · rw [if_pos e]; exact ap_var rfl (by simpa [vr] using e)
  · rw [if_neg e]; exact ap_free (by simpa [dom] using e)
end Go.Proofs.Ytiaghdodeinecaa
