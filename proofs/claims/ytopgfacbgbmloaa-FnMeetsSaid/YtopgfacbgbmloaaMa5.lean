/- Ma4. Written by a program of mine (aw.py). -/
import Derived.Test.YtopgfacbgbmloaaFacts
import Derived.Test.YtopgfacbgbmloaaMe1
import Derived.Test.YtopgfacbgbmloaaMa2
import Derived.Test.YtopgfacbgbmloaaTh2
import Derived.Test.YtopgfacbgbmloaaMt
import Derived.Test.YtopgfacbgbmloaaUm4
set_option linter.unusedVariables false
set_option linter.unusedSimpArgs false
set_option linter.unusedSectionVars false
namespace Go.Proofs.Ytopgfacbgbmloaa
open Go Go.Eng
attribute [local irreducible] V VO VQ VY Quiet QR SpecP SpecO MSpec Rng PostP PostO PostG
/-! ### renaming apart, by hand -/
def frs (u : List (List UInt8)) : Nat → List UInt8 → List UInt8
  | 0, n => n
  | k + 1, n => if n ∈ u then frs u k (n ++ [122]) else n
theorem frs_all (u : List (List UInt8)) : ∀ (m : Nat) (n : List UInt8), frs u m n ∈ u → ∀ i, i ≤ m → n ++ List.replicate i 122 ∈ u
  | 0, n, h, i, hi => by
    have : i = 0 := by omega
    subst this
    simpa [frs] using h
  | m + 1, n, h, i, hi => by
    simp only [frs] at h
    by_cases hn : n ∈ u
    · rw [if_pos hn] at h
      cases i with
      | zero => simpa using hn
      | succ i =>
        have := frs_all u m (n ++ [122]) h i (by omega)
        rw [List.append_assoc] at this
        simpa [List.replicate_succ] using this
    · rw [if_neg hn] at h
      exact absurd h hn
theorem frs_out (u : List (List UInt8)) (n : List UInt8) : frs u u.length n ∉ u := fun h => by
  have h1 := frs_all u u.length n h
  have hnd : ((List.range (u.length + 1)).map fun i => n ++ List.replicate i (122 : UInt8)).Nodup := by
    refine List.pairwise_map.2 (List.Pairwise.imp ?_ List.nodup_range)
    intro i j hij e
    have := congrArg List.length e
    simp at this
    exact hij this
  have := nodup_le hnd (fun v hv => by
    obtain ⟨i, hi, rfl⟩ := List.mem_map.1 hv
    exact h1 i (by have := List.mem_range.1 hi; omega))
  simp at this
  omega
theorem ren_l2 (u : List (List UInt8)) (K : List UInt8 → Option (List TBinding)) : ∀ (m f : Nat) (n : List UInt8), m < f → frs u m n ∉ u → n.length + m ≤ 4000000 → b_renApart_l2 u K f n = K (frs u m n)
  | m, 0, n, h, _, _ => by omega
  | 0, f + 1, n, _, h, _ => by
    simp only [frs] at h ⊢
    simp only [b_renApart_l2, ContainsS_eq, decide_eq_false h, cnd_false]
  | m + 1, f + 1, n, hf, h, hl => by
    simp only [frs] at h ⊢
    simp only [b_renApart_l2, ContainsS_eq]
    by_cases hn : n ∈ u
    · rw [if_pos hn] at h ⊢
      rw [decide_eq_true hn, cnd_true, gd_eq (by simp; omega)]
      exact ren_l2 u K m f _ (by omega) h (by simp; omega)
    · rw [if_neg hn] at h ⊢
      rw [decide_eq_false hn, cnd_false]
theorem sap_l2 (u : List (List UInt8)) (K : List UInt8 → Option TType) : ∀ (m f : Nat) (n : List UInt8), m < f → frs u m n ∉ u → n.length + m ≤ 4000000 → b_sApart_l2 u K f n = K (frs u m n)
  | m, 0, n, h, _, _ => by omega
  | 0, f + 1, n, _, h, _ => by
    simp only [frs] at h ⊢
    simp only [b_sApart_l2, l1Has_eq, decide_eq_false h, cnd_false]
  | m + 1, f + 1, n, hf, h, hl => by
    simp only [frs] at h ⊢
    simp only [b_sApart_l2, l1Has_eq]
    by_cases hn : n ∈ u
    · rw [if_pos hn] at h ⊢
      rw [decide_eq_true hn, cnd_true, gd_eq (by simp; omega)]
      exact sap_l2 u K m f _ (by omega) h (by simp; omega)
    · rw [if_neg hn] at h ⊢
      rw [decide_eq_false hn, cnd_false]
def apB (va : List (List UInt8)) : List (List UInt8) → List (List UInt8) → List TBinding → List TBinding
  | [], _, y => y
  | v :: vs, u, y => if v ∈ va then apB va vs (u ++ [frs u u.length v]) (y ++ [⟨v, vr (frs u u.length v)⟩]) else apB va vs u y
theorem ren_l1 (a0 : List TType) (va : List (List UInt8)) (hva : b_variablesOf a0 = some va) : ∀ (vs u : List (List UInt8)) (y : List TBinding), u.length + vs.length < 900 → y.length + vs.length ≤ 100000 → (∀ v ∈ vs, v ∈ va → v.length ≤ 1000000) → b_renApart_l1 a0 1000 vs u y = some (apB va vs u y)
  | [], u, y, _, _, _ => rfl
  | v :: vs, u, y, h, hy, hv => by
    simp only [List.length_cons] at h hy
    simp only [b_renApart_l1, apB]
    rw [bnd_eq hva, ContainsS_eq]
    by_cases hm : v ∈ va
    · have hv0 := hv v (by simp) hm
      rw [if_pos hm, decide_eq_true hm, Bool.not_true, cnd_false, ren_l2 u _ u.length 1000 v (by omega) (frs_out u v) (by omega), gd_eq (by simp; omega)]
      simp only [lt_, b_varType]
      rw [gd_eq (by simp; omega)]
      exact ren_l1 a0 va hva vs _ _ (by simp; omega) (by simp; omega) (fun w hw => hv w (by simp [hw]))
    · rw [if_neg hm, decide_eq_false hm, Bool.not_false, cnd_true]
      exact ren_l1 a0 va hva vs u y (by omega) (by omega) (fun w hw => hv w (by simp [hw]))
theorem frs_step (u : List (List UInt8)) (v : List UInt8) (hv : v ∈ u) : frs u u.length v = frs u (u.length - 1) (v ++ [122]) := by
  have : 0 < u.length := List.length_pos_of_mem hv
  obtain ⟨m, hm⟩ : ∃ m, u.length = m + 1 := ⟨u.length - 1, by omega⟩
  rw [hm, frs, if_pos hv]
  rfl
theorem apB_rng (va : List (List UInt8)) : ∀ (vs u : List (List UInt8)) (y : List TBinding), (∀ b ∈ y, ∃ s, b.type_ = vr s) → ∀ b ∈ apB va vs u y, ∃ s, b.type_ = vr s
  | [], _, y, h => h
  | v :: vs, u, y, h => by
    simp only [apB]
    split
    · refine apB_rng va vs _ _ fun b hb => ?_
      rcases List.mem_append.1 hb with hb | hb
      · exact h b hb
      · simp at hb; subst hb; exact ⟨_, rfl⟩
    · exact apB_rng va vs u y h
theorem sap_l1 (t : TType) (ht : tok t) (va : List (List UInt8)) : ∀ (vs u : List (List UInt8)) (y : List TBinding), u.length + vs.length < 900 → y.length + vs.length ≤ 100000 → (∀ v ∈ vs, v ∈ va → v.length ≤ 1000000) → (∀ v ∈ vs, v ∈ u) → (∀ b ∈ y, ∃ s, b.type_ = vr s) → b_sApart_l1 t va 1000 vs u y = some (apT (apB va vs u y) t)
  | [], u, y, _, _, _, _, hy => by
    have hb : bok y := fun b hb => by obtain ⟨s, hs⟩ := hy b hb; rw [hs]; exact tok_nil _ _
    simp only [b_sApart_l1, apB, lt_]
    rw [gd_eq ⟨hb, ht⟩]
  | v :: vs, u, y, h, hl, hv, hu, hy => by
    simp only [List.length_cons] at h hl
    have hu0 := hu v (by simp)
    simp only [b_sApart_l1, apB]
    rw [l1Has_eq]
    by_cases hm : v ∈ va
    · have hv0 := hv v (by simp) hm
      have hf := frs_out u v
      rw [frs_step u v hu0] at hf
      rw [if_pos hm, decide_eq_true hm, Bool.not_true, cnd_false, gd_eq (by simp; omega), sap_l2 u _ (u.length - 1) 1000 (v ++ [122]) (by omega) hf (by simp; omega), ← frs_step u v hu0, gd_eq (by simp; omega)]
      simp only [lt_, b_sVar]
      rw [gd_eq (by simp; omega)]
      refine sap_l1 t ht va vs _ _ (by simp; omega) (by simp; omega) (fun w hw => hv w (by simp [hw])) (fun w hw => List.mem_append.2 (.inl (hu w (by simp [hw])))) fun b hb => ?_
      rcases List.mem_append.1 hb with hb | hb
      · exact hy b hb
      · simp at hb; subst hb; exact ⟨_, rfl⟩
    · rw [if_neg hm, decide_eq_false hm, Bool.not_false, cnd_true]
      exact sap_l1 t ht va vs u y (by omega) (by omega) (fun w hw => hv w (by simp [hw])) (fun w hw => hu w (by simp [hw])) hy
/-- The renaming is one. -/
theorem apB_keep (va : List (List UInt8)) {v : List UInt8} : ∀ (vs u : List (List UInt8)) (y : List TBinding), (lkp v y).2 = true → lkp v (apB va vs u y) = lkp v y
  | [], _, _, _ => rfl
  | w :: vs, u, y, h => by
    simp only [apB]
    split
    · rw [apB_keep va vs _ _ (by rw [lkp_app, h, cnd_true]; exact h), lkp_app, h, cnd_true]
    · exact apB_keep va vs u y h
theorem apB_in (va : List (List UInt8)) {v : List UInt8} (hm : v ∈ va) : ∀ (vs u : List (List UInt8)) (y : List TBinding), v ∈ vs → (lkp v y).2 = false → ∃ s, lkp v (apB va vs u y) = (vr s, true) ∧ s ∉ u
  | [], _, _, h, _ => by simp at h
  | w :: vs, u, y, h, hy => by
    simp only [apB]
    by_cases e : w = v
    · subst e
      rw [if_pos hm]
      have hl : lkp w (y ++ [⟨w, vr (frs u u.length w)⟩]) = (vr (frs u u.length w), true) := by rw [lkp_app, hy, cnd_false, lkp_hit]
      refine ⟨frs u u.length w, ?_, frs_out u w⟩
      rw [apB_keep va vs _ _ (by rw [hl]), hl]
    · have h' : v ∈ vs := (List.mem_cons.1 h).resolve_left (fun e' => e e'.symm)
      split
      · obtain ⟨s, h1, h2⟩ := apB_in va hm vs (u ++ [frs u u.length w]) (y ++ [⟨w, vr (frs u u.length w)⟩]) h' (by rw [lkp_app, hy, cnd_false]; exact lkp_mis _ e)
        exact ⟨s, h1, fun hs => h2 (List.mem_append.2 (.inl hs))⟩
      · exact apB_in va hm vs u y h' hy
theorem apB_out (va : List (List UInt8)) {v : List UInt8} : ∀ (vs u : List (List UInt8)) (y : List TBinding), ¬ (v ∈ vs ∧ v ∈ va) → (lkp v y).2 = false → (lkp v (apB va vs u y)).2 = false
  | [], _, _, _, hy => hy
  | w :: vs, u, y, h, hy => by
    simp only [apB]
    have h' : ¬ (v ∈ vs ∧ v ∈ va) := fun e => h ⟨by simp [e.1], e.2⟩
    split
    · rename_i hm
      have e : w ≠ v := fun e => h ⟨by simp [e], e ▸ hm⟩
      exact apB_out va vs _ _ h' (by rw [lkp_app, hy, cnd_false]; exact lkp_mis _ e)
    · exact apB_out va vs u y h' hy
theorem apB_inj (va : List (List UInt8)) : ∀ (vs u : List (List UInt8)) (y : List TBinding), (∀ a b s, lkp a y = (vr s, true) → lkp b y = (vr s, true) → a = b) → (∀ a s, lkp a y = (vr s, true) → s ∈ u) → ∀ a b s, lkp a (apB va vs u y) = (vr s, true) → lkp b (apB va vs u y) = (vr s, true) → a = b
  | [], _, _, h, _ => h
  | w :: vs, u, y, h, hu => by
    simp only [apB]
    split
    · have key : ∀ a s, lkp a (y ++ [⟨w, vr (frs u u.length w)⟩]) = (vr s, true) → lkp a y = (vr s, true) ∨ (a = w ∧ s = frs u u.length w) := by
        intro a s ha
        rw [lkp_app] at ha
        cases hb : (lkp a y).2 with
        | true => rw [hb, cnd_true] at ha; exact .inl ha
        | false =>
          rw [hb, cnd_false] at ha
          by_cases e : w = a
          · subst e
            rw [lkp_hit] at ha
            simp only [Prod.mk.injEq, and_true, vr, TType.mk.injEq, true_and] at ha
            exact .inr ⟨rfl, ha.symm⟩
          · have := lkp_mis (vr (frs u u.length w)) e
            rw [ha] at this
            cases this
      refine apB_inj va vs _ _ (fun a b s ha hb => ?_) (fun a s ha => ?_)
      · rcases key a s ha with h1 | ⟨rfl, h1⟩ <;> rcases key b s hb with h2 | ⟨rfl, h2⟩
        · exact h a b s h1 h2
        · exact absurd (hu a s h1) (h2 ▸ frs_out u _)
        · exact absurd (hu b s h2) (h1 ▸ frs_out u _)
        · rfl
      · rcases key a s ha with h1 | ⟨rfl, rfl⟩
        · exact List.mem_append.2 (.inl (hu a s h1))
        · simp
    · exact apB_inj va vs u y h hu
theorem onceS_mem (x : List UInt8) : ∀ (xs y : List (List UInt8)), x ∈ onceS xs y ↔ x ∈ xs ∨ x ∈ y
  | [], y => by simp [onceS]
  | z :: xs, y => by
    simp only [onceS]
    split
    · rename_i hz
      rw [onceS_mem x xs y]
      constructor
      · rintro (h | h)
        · exact .inl (by simp [h])
        · exact .inr h
      · rintro (h | h)
        · rcases List.mem_cons.1 h with rfl | h
          · exact .inr hz
          · exact .inl h
        · exact .inr h
    · rw [onceS_mem x xs _]
      simp only [List.mem_append, List.mem_cons, List.not_mem_nil, or_false]
      constructor
      · rintro (h | h | h)
        · exact .inl (.inr h)
        · exact .inr h
        · exact .inl (.inl h)
      · rintro ((h | h) | h)
        · exact .inr (.inr h)
        · exact .inl h
        · exact .inr (.inl h)
theorem onceS_len : ∀ (xs y : List (List UInt8)), (onceS xs y).length ≤ xs.length + y.length
  | [], y => by simp [onceS]
  | z :: xs, y => by
    simp only [onceS]
    split
    · have := onceS_len xs y; simp; omega
    · have := onceS_len xs (y ++ [z]); simp at this ⊢; omega
theorem onceS_app : ∀ (xs zs y : List (List UInt8)), onceS (xs ++ zs) y = onceS zs (onceS xs y)
  | [], zs, y => rfl
  | x :: xs, zs, y => by
    simp only [List.cons_append, onceS]
    split <;> exact onceS_app xs zs _
/-- The renaming of b's variables apart from a's. -/
def renOf (va vb : List (List UInt8)) : List TBinding := apB va vb (onceS (va ++ vb) []) []
theorem renOf_ren (va vb : List (List UInt8)) : Ren va vb (renOf va vb) := by
  have hout : ∀ s, s ∉ onceS (va ++ vb) [] → s ∉ va ∧ s ∉ vb := fun s hs => ⟨fun h => hs ((onceS_mem s _ _).2 (.inl (List.mem_append.2 (.inl h)))), fun h => hs ((onceS_mem s _ _).2 (.inl (List.mem_append.2 (.inr h))))⟩
  refine ⟨fun v hv hm => ?_, fun v h => apB_out va vb _ [] h rfl, apB_inj va vb _ [] (fun a b s h => by simp [lkp] at h) (fun a s h => by simp [lkp] at h)⟩
  obtain ⟨s, h1, h2⟩ := apB_in va hm vb (onceS (va ++ vb) []) [] hv rfl
  exact ⟨s, h1, hout s h2⟩
theorem renOf_rng (va vb : List (List UInt8)) : ∀ b ∈ renOf va vb, ∃ s, b.type_ = vr s := apB_rng va vb _ [] (fun b hb => by simp at hb)
theorem renOf_bok (va vb : List (List UInt8)) : bok (renOf va vb) := fun b hb => by obtain ⟨s, hs⟩ := renOf_rng va vb b hb; rw [hs]; exact tok_nil _ _
theorem sunion_l2 : ∀ (xs y : List (List UInt8)), y.length + xs.length ≤ 4000000 → b_sUnion_l2 xs y = some (onceS xs y)
  | [], y, _ => rfl
  | x :: xs, y, h => by
    simp only [List.length_cons] at h
    simp only [b_sUnion_l2, onceS, l1Has_eq]
    by_cases hx : x ∈ y
    · simp only [hx, decide_true, Bool.not_true, cnd_false, if_true]
      exact sunion_l2 xs y (by omega)
    · simp only [hx, decide_false, Bool.not_false, cnd_true, if_false]
      rw [gd_eq (by simp; omega)]
      exact sunion_l2 xs _ (by simp; omega)
theorem sunion_l1 (zs : List (List UInt8)) : ∀ (xs y : List (List UInt8)), y.length + xs.length + zs.length ≤ 4000000 → b_sUnion_l1 zs xs y = some (onceS zs (onceS xs y))
  | [], y, h => sunion_l2 zs y (by simp at h; omega)
  | x :: xs, y, h => by
    simp only [List.length_cons] at h
    simp only [b_sUnion_l1, onceS, l1Has_eq]
    by_cases hx : x ∈ y
    · simp only [hx, decide_true, Bool.not_true, cnd_false, if_true]
      exact sunion_l1 zs xs y (by omega)
    · simp only [hx, decide_false, Bool.not_false, cnd_true, if_false]
      rw [gd_eq (by simp; omega)]
      exact sunion_l1 zs xs _ (by simp; omega)
/-- Names that are not too long. -/
def Shn (va : List (List UInt8)) (t : TType) : Prop := ∀ v ∈ tvs t, v ∈ va → v.length ≤ 1000000
theorem varsT_sub (t : TType) : ∀ v ∈ varsT t [], v ∈ tvs t := fun v hv => ((varsT_mem v t []).1 hv).resolve_left (by simp)
theorem iren_eq (a b : TType) (ha : tnd a ≤ 4000) (hb : tnd b ≤ 4000) (na : (varsT a []).length ≤ 200) (nb : (varsT b []).length ≤ 200) (hs : Shn (varsT a []) b) : renApartT [a] [b] = some (renOf (varsT a []) (varsT b [])) := by
  unfold renApartT b_renApart
  rw [bnd_eq (variablesOf_eq a (by omega)), variablesOf_eq b (by omega)]
  simp only [bnd]
  rw [union_eq _ _ (by omega) (by omega)]
  have hl := onceS_len (varsT a [] ++ varsT b []) []
  rw [List.length_append] at hl
  simp only [List.length_nil, Nat.add_zero] at hl
  exact ren_l1 [a] _ (variablesOf_eq a (by omega)) _ _ _ (by omega) (by simp; omega) (fun v hv => hs v (varsT_sub b v hv))
theorem sren_eq (a b : TType) (ha : tnd a ≤ 4000) (hb : tnd b ≤ 4000) (na : (varsT a []).length ≤ 200) (nb : (varsT b []).length ≤ 200) (hs : Shn (varsT a []) b) (ht : tok b) : sApartT b (varsT a []) = some (apT (renOf (varsT a []) (varsT b [])) b) := by
  have hl := onceS_len (varsT a [] ++ varsT b []) []
  rw [List.length_append] at hl
  simp only [List.length_nil, Nat.add_zero] at hl
  have hu : b_sUnion (varsT a []) (varsT b []) = some (onceS (varsT a [] ++ varsT b []) []) := by
    unfold b_sUnion
    rw [sunion_l1 _ _ [] (by simp; omega), onceS_app]
  unfold sApartT b_sApart
  rw [bnd_eq (sTV_eq b (by omega)), bnd_eq hu]
  exact sap_l1 b ht _ _ _ [] (by omega) (by simp; omega) (fun v hv => hs v (varsT_sub b v hv)) (fun v hv => (onceS_mem v _ _).2 (.inl (List.mem_append.2 (.inr hv)))) (fun b hb => by simp at hb)

end Go.Proofs.Ytopgfacbgbmloaa
set_option linter.unusedVariables false
set_option linter.unusedSimpArgs false
set_option linter.unusedSectionVars false
namespace Go.Proofs.Ytopgfacbgbmloaa
open Go Go.Eng
attribute [local irreducible] V VO VQ VY Quiet QR SpecP SpecO MSpec Rng PostP PostO PostG
/-! ### unification with a solution at hand -/
def RS (s l : List TBinding) : Prop := Sol s l ∧ tnaB l
def PS (V : List (List UInt8)) (s : List TBinding) (a b : TType) : Prop := (Good V a ∧ Good V b) ∧ tna a ∧ tna b ∧ apT s a = apT s b ∧ tnd (apT s a) ≤ 2000
theorem PS.sizes {V : List (List UInt8)} {s l : List TBinding} {a b : TType} (hR : RS s l) (hP : PS V s a b) : tnd (apT l a) ≤ 2000 ∧ tnd (apT l b) ≤ 2000 ∧ apT s (apT l a) = apT s (apT l b) ∧ tna (apT l a) ∧ tna (apT l b) := by
  obtain ⟨_, h1, h2, h3, h4⟩ := hP
  have n1 := apT_tna hR.2 a h1
  have n2 := apT_tna hR.2 b h2
  have s1 := hR.1 a h1
  have s2 := hR.1 b h2
  have t1 := tnd_ap s _ n1
  have t2 := tnd_ap s _ n2
  rw [s1] at t1
  rw [s2, ← h3] at t2
  exact ⟨by omega, by omega, by rw [s1, s2, h3], n1, n2⟩
theorem solCtl (V : List (List UInt8)) (hV : V.length ≤ 8) (s : List TBinding) : Ctl False V (RS s) (fun _ => PS V s) where
  few := hV
  good := fun h => h.1
  big := fun _ hR hP => by
    obtain ⟨h1, h2, _⟩ := PS.sizes hR hP
    exact ⟨by omega, by omega⟩
  lim := fun _ hR hP => by
    obtain ⟨h1, h2, _⟩ := PS.sizes hR hP
    exact .inr (by omega)
  bx := fun {l a b x y} _ hR hP hx hy _ _ hk _ => by
    obtain ⟨_, _, h3, h4, h5⟩ := PS.sizes hR hP
    rw [hx] at h3 h4
    rw [hy] at h3 h5
    have e := tna_var h4 hk
    rw [e] at h3
    exact ⟨hR.1.bind hR.2 h3, tnaB_bind hR.2 h5⟩
  bv := fun {l a b x y} _ hR hP hx hy _ _ _ hk _ => by
    obtain ⟨_, _, h3, h4, h5⟩ := PS.sizes hR hP
    rw [hx] at h3 h4
    rw [hy] at h3 h5
    have e := tna_var h5 hk
    rw [e] at h3
    exact ⟨hR.1.bind hR.2 h3.symm, tnaB_bind hR.2 h4⟩
  args := fun {l a b x y} hl hR hP hx hy _ hs kx ky _ _ _ => by
    obtain ⟨z1, z2, h3, h4, h5⟩ := PS.sizes hR hP
    have vx := hl.vars hP.1.1
    have vy := hl.vars hP.1.2
    have ox := apT_tok hl.ok a hP.1.1.ok
    have oy := apT_tok hl.ok b hP.1.2.ok
    rw [hx] at h3 h4 z1 vx ox
    rw [hy] at h3 h5 z2 vy oy
    obtain ⟨_, _, e3⟩ := parts_eq kx ky h3
    obtain ⟨g1, _, _⟩ := args_good (V := V) (by omega) ox (fun v hv => (vx v hv).1)
    obtain ⟨g2, _, _⟩ := args_good (V := V) (by omega) oy (fun v hv => (vy v hv).1)
    refine PR.of x.args y.args l fun i c d hc hd => ?_
    have hcm : c ∈ x.args := List.mem_of_getElem? hc
    have hdm : d ∈ y.args := List.mem_of_getElem? hd
    refine ⟨⟨g1 c hcm, g2 d hdm⟩, tnas_iff.1 (tna_args h4) c hcm, tnas_iff.1 (tna_args h5) d hdm, apTs_get e3 hc hd, ?_⟩
    have t0 := hP.2.2.2.2
    have t1 : apT s x = apT s a := by rw [← hx]; exact hR.1 a hP.2.1
    have t2 : tnd (apT s c) ≤ tnds (apTs s x.args) := by
      refine tnd_mem ?_
      rw [apTs_map]
      exact List.mem_map_of_mem hcm
    have t3 : tnds (apTs s x.args) + 1 = tnd (apT s x) := by
      obtain ⟨k, n, ts⟩ := x
      simp only at kx
      rw [apT_con _ _ _ _ kx]
      show tnds (apTs s ts) + 1 = _
      simp only [tnd]
      omega
    rw [t1] at t3
    omega

/-! ### an instance against its pattern, by hand (the instance may hold variables with arguments) -/
structure Dir (va : List (List UInt8)) (γ : List UInt8 → TType) (φ : List UInt8 → List UInt8) : Prop where
  out : ∀ u ∈ va, ∀ v ∈ va, φ u ∉ tvs (γ v)
  inj : ∀ u ∈ va, ∀ v ∈ va, φ u = φ v → u = v
def DoneV (γ : List UInt8 → TType) (φ : List UInt8 → List UInt8) (l : List TBinding) (v : List UInt8) : Prop := apT l (vr (φ v)) = apT l (γ v)
def FrsV (φ : List UInt8 → List UInt8) (l : List TBinding) (v : List UInt8) : Prop := φ v ∉ dom l ∧ ∀ b ∈ l, φ v ∉ tvs b.type_
def RD (va : List (List UInt8)) (γ : List UInt8 → TType) (φ : List UInt8 → List UInt8) (l : List TBinding) : Prop :=
  (∀ v ∈ va, DoneV γ φ l v ∨ FrsV φ l v) ∧ ∀ n, (∀ v ∈ va, n ≠ φ v) → (lkp n l).2 = true → ∃ m, (lkp n l).1 = vr m
mutual
theorem apF_le {f g : List UInt8 → TType} : ∀ (p : TType), (∀ v ∈ tvs p, tnd (f v) ≤ tnd (g v)) → tnd (apF f p) ≤ tnd (apF g p)
  | ⟨k, n, ts⟩, h => by
    simp only [apF]
    by_cases hk : k = 1
    · rw [if_pos hk, if_pos hk]
      exact h n (by simp [tvs, hk])
    · rw [if_neg hk, if_neg hk]
      have := apFs_le ts (fun v hv => h v (by simp [tvs, hk, hv]))
      simp only [tnd]
      omega
theorem apFs_le {f g : List UInt8 → TType} : ∀ (ps : List TType), (∀ v ∈ tvss ps, tnd (f v) ≤ tnd (g v)) → tnds (apFs f ps) ≤ tnds (apFs g ps)
  | [], _ => Nat.le_refl _
  | p :: ps, h => by
    have h1 := apF_le p (fun v hv => h v (by simp [tvss, hv]))
    have h2 := apFs_le ps (fun v hv => h v (by simp [tvss, hv]))
    simp only [apFs, tnds]
    omega
end
section
variable {V va : List (List UInt8)} {γ : List UInt8 → TType} {φ : List UInt8 → List UInt8} {l : List TBinding}
mutual
theorem szG (hR : RD va γ φ l) : ∀ (t : TType), (∀ n ∈ tvs t, ∀ v ∈ va, n ≠ φ v) → tnd (apT l t) ≤ tnd t
  | ⟨k, n, ts⟩, h => by
    by_cases hk : k = 1
    · subst hk
      cases hb : (lkp n l).2 with
      | true =>
        obtain ⟨m, hm⟩ := hR.2 n (h n (by simp [tvs])) hb
        rw [apT_var1 _ _ _ hb, hm]
        simp [vr, tnd, tnds]
      | false =>
        rw [apT_var0 _ _ _ hb]
        have := szGs hR ts (fun m hm => h m (by simp [tvs, hm]))
        simp only [tnd]
        omega
    · rw [apT_con _ _ _ _ hk]
      have := szGs hR ts (fun m hm => h m (by simp [tvs, hm]))
      simp only [tnd]
      omega
theorem szGs (hR : RD va γ φ l) : ∀ (ts : List TType), (∀ n ∈ tvss ts, ∀ v ∈ va, n ≠ φ v) → tnds (apTs l ts) ≤ tnds ts
  | [], _ => Nat.le_refl _
  | a :: ts, h => by
    have h1 := szG hR a (fun m hm => h m (by simp [tvss, hm]))
    have h2 := szGs hR ts (fun m hm => h m (by simp [tvss, hm]))
    simp only [apTs, tnds]
    omega
end
theorem Dir.szγ (D : Dir va γ φ) (hR : RD va γ φ l) {v : List UInt8} (hv : v ∈ va) : tnd (apT l (γ v)) ≤ tnd (γ v) :=
  szG hR _ fun n hn u hu e => D.out u hu v hv (e ▸ hn)
theorem Dir.leaf (D : Dir va γ φ) (hR : RD va γ φ l) {v : List UInt8} (hv : v ∈ va) : tnd (apT l (vr (φ v))) ≤ tnd (γ v) := by
  rcases hR.1 v hv with h | h
  · have h : apT l (vr (φ v)) = apT l (γ v) := h
    rw [h]
    exact D.szγ hR hv
  · rw [ap_free h.1]
    have := tnd_pos (γ v)
    simpa [vr, tnd, tnds] using this
theorem Dir.sizes (D : Dir va γ φ) (hR : RD va γ φ l) {p : TType} (hp : ∀ v ∈ tvs p, v ∈ va) : tnd (apT l (apF (fun v => vr (φ v)) p)) ≤ tnd (apF γ p) ∧ tnd (apT l (apF γ p)) ≤ tnd (apF γ p) := by
  rw [apT_apF, apT_apF]
  exact ⟨apF_le p fun v hv => D.leaf hR (hp v hv), apF_le p fun v hv => D.szγ hR (hp v hv)⟩
theorem frs_tvs {u : List UInt8} (h : FrsV φ l u) {t : TType} (ht : φ u ∉ tvs t) : φ u ∉ tvs (apT l t) := fun hm => by
  rcases tvs_ap t hm with ⟨h1, _⟩ | ⟨b, h1, h2⟩
  · exact ht h1
  · exact h.2 b h1 h2
/-- What stands on both sides. -/
theorem Dir.cases (D : Dir va γ φ) (hR : RD va γ φ l) {p : TType} (np : tna p) (hp : ∀ v ∈ tvs p, v ∈ va) (hne : apT l (apF (fun v => vr (φ v)) p) ≠ apT l (apF γ p)) :
    (∃ v ∈ va, FrsV φ l v ∧ apT l (apF (fun v => vr (φ v)) p) = vr (φ v) ∧ apT l (apF γ p) = apT l (γ v) ∧ φ v ∉ tvs (apT l (γ v))) ∨
    (∃ (k : Int) (n : List UInt8) (ps : List TType), k ≠ 1 ∧ tnas ps ∧ (∀ v ∈ tvss ps, v ∈ va) ∧ tnds (apFs γ ps) + 1 = tnd (apF γ p) ∧ apT l (apF (fun v => vr (φ v)) p) = ⟨k, n, apTs l (apFs (fun v => vr (φ v)) ps)⟩ ∧ apT l (apF γ p) = ⟨k, n, apTs l (apFs γ ps)⟩) := by
  obtain ⟨k, n, ps⟩ := p
  simp only [tna] at np
  by_cases hk : k = 1
  · subst hk
    have hv : n ∈ va := hp n (by simp [tvs])
    simp only [apF, if_true] at hne ⊢
    have hf : FrsV φ l n := (hR.1 n hv).resolve_left hne
    exact .inl ⟨n, hv, hf, ap_free hf.1, rfl, frs_tvs hf (D.out n hv n hv)⟩
  · refine .inr ⟨k, n, ps, hk, np.2, fun v hv => hp v (by simp [tvs, hk, hv]), ?_, ?_, ?_⟩
    · simp only [apF, if_neg hk, tnd]; omega
    · simp only [apF, if_neg hk]; rw [apT_con _ _ _ _ hk]
    · simp only [apF, if_neg hk]; rw [apT_con _ _ _ _ hk]
theorem RD.bindφ (D : Dir va γ φ) (hR : RD va γ φ l) {v : List UInt8} (hv : v ∈ va) (hf : FrsV φ l v) : RD va γ φ (bindL l (φ v) (apT l (γ v))) := by
  have hb : ∀ t, apT (bindL l (φ v) (apT l (γ v))) t = apT [⟨φ v, apT l (γ v)⟩] (apT l t) := apT_bind _ _ _
  have hn := frs_tvs hf (D.out v hv v hv)
  refine ⟨fun u hu => ?_, fun n hn2 hl => ?_⟩
  · by_cases e : u = v
    · subst e
      refine .inl ?_
      show _ = _
      rw [hb, hb, ap_free hf.1, ap_no hn]
      exact ap_var rfl rfl
    · rcases hR.1 u hu with h | h
      · have h : apT l (vr (φ u)) = apT l (γ u) := h
        exact .inl (by show _ = _; rw [hb, hb, h])
      · have hy : φ u ∉ tvs (apT l (γ v)) := frs_tvs h (D.out u hu v hv)
        refine .inr ⟨?_, fun b hb2 => ?_⟩
        · rw [dom_bind]
          simp only [List.mem_append, List.mem_singleton, not_or]
          exact ⟨h.1, fun e' => e (D.inj u hu v hv e')⟩
        · simp only [bindL, List.mem_append, List.mem_map, List.mem_singleton] at hb2
          rcases hb2 with ⟨c, hc, rfl⟩ | rfl
          · intro hm
            rcases tvs_one hm with ⟨h1, _⟩ | h1
            · exact h.2 c hc h1
            · exact hy h1
          · exact hy
  · rw [lkp_bind] at hl ⊢
    cases hx : (lkp n l).2 with
    | true =>
      rw [cnd_true]
      obtain ⟨m, hm⟩ := hR.2 n hn2 hx
      refine ⟨m, ?_⟩
      obtain ⟨b, b1, _, b3⟩ := lkp_mem hx
      have hmv : m ≠ φ v := fun e => hf.2 b b1 (by rw [← b3, hm, e]; simp [vr, tvs])
      show apT _ (lkp n l).1 = _
      rw [hm]
      exact ap_free (by simpa [dom] using hmv)
    | false =>
      rw [hx, cnd_false] at hl
      rw [lkp_mis _ (fun e => hn2 v hv e.symm)] at hl
      cases hl
theorem RD.bindv (D : Dir va γ φ) (hR : RD va γ φ l) {v : List UInt8} (hv : v ∈ va) (hf : FrsV φ l v) {x : TType} (hx : apT l (γ v) = x) (hk : x.kind = 1) : RD va γ φ (bindL l x.name (vr (φ v))) := by
  have hb : ∀ t, apT (bindL l x.name (vr (φ v))) t = apT [⟨x.name, vr (φ v)⟩] (apT l t) := apT_bind _ _ _
  have hn : φ v ∉ tvs x := hx ▸ frs_tvs hf (D.out v hv v hv)
  have hxn : x.name ∈ tvs x := var_in hk
  have hne : x.name ≠ φ v := fun e => hn (e ▸ hxn)
  refine ⟨fun u hu => ?_, fun n hn2 hl => ?_⟩
  · by_cases e : u = v
    · subst e
      refine .inl ?_
      show _ = _
      rw [hb, hb, ap_free hf.1, hx, ap_var hk rfl]
      exact ap_free (by simpa [dom] using fun e => hne e.symm)
    · rcases hR.1 u hu with h | h
      · have h : apT l (vr (φ u)) = apT l (γ u) := h
        exact .inl (by show _ = _; rw [hb, hb, h])
      · have hy : φ u ∉ tvs x := hx ▸ frs_tvs h (D.out u hu v hv)
        have hφ : φ u ∉ tvs (vr (φ v)) := by simpa [vr, tvs, tvss] using fun e' => e (D.inj u hu v hv e')
        refine .inr ⟨?_, fun b hb2 => ?_⟩
        · rw [dom_bind]
          simp only [List.mem_append, List.mem_singleton, not_or]
          exact ⟨h.1, fun e' => hy (e' ▸ hxn)⟩
        · simp only [bindL, List.mem_append, List.mem_map, List.mem_singleton] at hb2
          rcases hb2 with ⟨c, hc, rfl⟩ | rfl
          · intro hm
            rcases tvs_one hm with ⟨h1, _⟩ | h1
            · exact h.2 c hc h1
            · exact hφ h1
          · exact hφ
  · rw [lkp_bind] at hl ⊢
    cases hx2 : (lkp n l).2 with
    | true =>
      rw [cnd_true]
      obtain ⟨m, hm⟩ := hR.2 n hn2 hx2
      show ∃ m, apT _ (lkp n l).1 = _
      rw [hm]
      by_cases e : m = x.name
      · exact ⟨φ v, by rw [e]; exact ap_var rfl rfl⟩
      · exact ⟨m, ap_free (by simpa [dom] using e)⟩
    | false =>
      rw [hx2, cnd_false] at hl
      rw [cnd_false]
      by_cases e : x.name = n
      · subst e
        rw [lkp_hit]
        exact ⟨φ v, rfl⟩
      · rw [lkp_mis _ e] at hl
        cases hl
def PG (V va : List (List UInt8)) (γ f g : List UInt8 → TType) (l : List TBinding) (c d : TType) : Prop := (Good V c ∧ Good V d) ∧ ∃ p, tna p ∧ (∀ v ∈ tvs p, v ∈ va) ∧ tnd (apF γ p) ≤ 1000 ∧ apT l c = apT l (apF f p) ∧ apT l d = apT l (apF g p)
theorem PR_kidsG {R : List TBinding → Prop} {f g : List UInt8 → TType} {l0 : List TBinding} : ∀ (ps : List TType) (l : List TBinding), (∀ t, apT l (apT l0 t) = apT l t) → tnas ps → (∀ v ∈ tvss ps, v ∈ va) → tnds (apFs γ ps) ≤ 1000 → (∀ c ∈ apTs l0 (apFs f ps), Good V c) → (∀ c ∈ apTs l0 (apFs g ps), Good V c) → PR V R (PG V va γ f g) l (apTs l0 (apFs f ps)) (apTs l0 (apFs g ps))
  | [], _, _, _, _, _, _, _ => trivial
  | p :: ps, l, h, hn, hv, hs, hf, hg => by
    simp only [tnas] at hn
    simp only [apFs, tnds] at hs
    simp only [apFs, apTs] at hf hg ⊢
    refine ⟨⟨⟨hf _ (by simp), hg _ (by simp)⟩, p, hn.1, fun v hm => hv v (by simp [tvss, hm]), by omega, h _, h _⟩, fun l' _ _ he => ?_⟩
    exact PR_kidsG ps l' (fun t => by rw [← he (apT l0 t), h t, he t]) hn.2 (fun v hm => hv v (by simp [tvss, hm])) (by omega) (fun c hc => hf c (by simp [hc])) (fun c hc => hg c (by simp [hc]))
theorem kids_good {a x : TType} (hl : Inv V l) (hg : Good V a) (hx : apT l a = x) (hs : tnd x ≤ 4000) : ∀ c ∈ x.args, Good V c := by
  have vx := hl.vars hg
  have ox := apT_tok hl.ok a hg.ok
  rw [hx] at vx ox
  exact (args_good (V := V) hs ox (fun v hv => (vx v hv).1)).1
theorem dirL (hV : V.length ≤ 8) (D : Dir va γ φ) : Ctl False V (RD va γ φ) (PG V va γ (fun v => vr (φ v)) γ) ∧ Suc V (RD va γ φ) (PG V va γ (fun v => vr (φ v)) γ) := by
  have szs : ∀ {l : List TBinding} {a b : TType}, RD va γ φ l → PG V va γ (fun v => vr (φ v)) γ l a b → tnd (apT l a) ≤ 1000 ∧ tnd (apT l b) ≤ 1000 := by
    intro l a b hR hP
    obtain ⟨_, p, _, h2, h3, h4, h5⟩ := hP
    obtain ⟨s1, s2⟩ := D.sizes hR h2
    rw [h4, h5]
    exact ⟨by omega, by omega⟩
  refine ⟨⟨hV, fun h => h.1, fun _ hR hP => ?_, fun _ hR hP => ?_, ?_, ?_, ?_⟩, ?_⟩
  · obtain ⟨h1, h2⟩ := szs hR hP; exact ⟨by omega, by omega⟩
  · obtain ⟨h1, h2⟩ := szs hR hP; exact .inr (by omega)
  · intro l a b x y hl hR hP hx hy hne _ hk _
    obtain ⟨_, p, np, h2, h3, h4, h5⟩ := hP
    rw [hx] at h4
    rw [hy] at h5
    rcases D.cases hR np h2 (by rw [← h4, ← h5]; exact hne) with ⟨v, hv, q1, q2, q3, q4⟩ | ⟨k, n, ps, q0, _, _, _, q2, _⟩
    · rw [h4, q2, h5, q3]
      exact hR.bindφ D hv q1
    · rw [h4, q2] at hk; exact absurd hk q0
  · intro l a b x y hl hR hP hx hy hne _ hk hk2 _
    obtain ⟨_, p, np, h2, h3, h4, h5⟩ := hP
    rw [hx] at h4
    rw [hy] at h5
    rcases D.cases hR np h2 (by rw [← h4, ← h5]; exact hne) with ⟨v, hv, q1, q2, q3, q4⟩ | ⟨k, n, ps, q0, _, _, _, _, q3⟩
    · rw [h4, q2] at hk; exact absurd rfl hk
    · rw [h5, q3] at hk2; exact absurd hk2 q0
  · intro l a b x y hl hR hP hx hy hne hs kx ky _ _ _
    have g1 := kids_good hl hP.1.1 hx (by omega)
    have g2 := kids_good hl hP.1.2 hy (by omega)
    obtain ⟨_, p, np, h2, h3, h4, h5⟩ := hP
    rw [hx] at h4
    rw [hy] at h5
    rcases D.cases hR np h2 (by rw [← h4, ← h5]; exact hne) with ⟨v, hv, q1, q2, q3, q4⟩ | ⟨k, n, ps, q0, n1, n2, n3, q2, q3⟩
    · rw [h4, q2] at kx; exact absurd rfl kx
    · rw [q2] at h4
      rw [q3] at h5
      subst h4; subst h5
      exact PR_kidsG ps l hl.idem n1 n2 (by omega) g1 g2
  · intro l a b x y hl hR hP hx hy hne
    obtain ⟨z1, z2⟩ := szs hR hP
    rw [hx] at z1
    rw [hy] at z2
    obtain ⟨_, p, np, h2, h3, h4, h5⟩ := hP
    rw [hx] at h4
    rw [hy] at h5
    refine ⟨by omega, ?_⟩
    rcases D.cases hR np h2 (by rw [← h4, ← h5]; exact hne) with ⟨v, hv, q1, q2, q3, q4⟩ | ⟨k, n, ps, q0, _, _, _, q2, q3⟩
    · rw [h4, q2, h5, q3]
      exact ⟨fun _ => q4, fun h => absurd rfl h, fun h => absurd rfl h⟩
    · rw [h4, q2, h5, q3]
      refine ⟨fun h => absurd h q0, fun _ h => absurd h q0, fun _ _ => ⟨rfl, rfl, ?_⟩⟩
      simp only [apTs_len, apFs_map, List.length_map]
theorem dirR (hV : V.length ≤ 8) (D : Dir va γ φ) : Ctl False V (RD va γ φ) (PG V va γ γ (fun v => vr (φ v))) ∧ Suc V (RD va γ φ) (PG V va γ γ (fun v => vr (φ v))) := by
  have szs : ∀ {l : List TBinding} {a b : TType}, RD va γ φ l → PG V va γ γ (fun v => vr (φ v)) l a b → tnd (apT l a) ≤ 1000 ∧ tnd (apT l b) ≤ 1000 := by
    intro l a b hR hP
    obtain ⟨_, p, _, h2, h3, h4, h5⟩ := hP
    obtain ⟨s1, s2⟩ := D.sizes hR h2
    rw [h4, h5]
    exact ⟨by omega, by omega⟩
  refine ⟨⟨hV, fun h => h.1, fun _ hR hP => ?_, fun _ hR hP => ?_, ?_, ?_, ?_⟩, ?_⟩
  · obtain ⟨h1, h2⟩ := szs hR hP; exact ⟨by omega, by omega⟩
  · obtain ⟨h1, h2⟩ := szs hR hP; exact .inr (by omega)
  · intro l a b x y hl hR hP hx hy hne _ hk _
    obtain ⟨_, p, np, h2, h3, h4, h5⟩ := hP
    rw [hx] at h4
    rw [hy] at h5
    rcases D.cases hR np h2 (by rw [← h4, ← h5]; exact hne.symm) with ⟨v, hv, q1, q2, q3, q4⟩ | ⟨k, n, ps, q0, _, _, _, _, q3⟩
    · rw [h5, q2]
      exact hR.bindv D hv q1 (q3.symm.trans h4.symm) hk
    · rw [h4, q3] at hk; exact absurd hk q0
  · intro l a b x y hl hR hP hx hy hne _ hk hk2 _
    obtain ⟨_, p, np, h2, h3, h4, h5⟩ := hP
    rw [hx] at h4
    rw [hy] at h5
    rcases D.cases hR np h2 (by rw [← h4, ← h5]; exact hne.symm) with ⟨v, hv, q1, q2, q3, q4⟩ | ⟨k, n, ps, q0, _, _, _, q2, _⟩
    · rw [h5, q2, h4, q3]
      exact hR.bindφ D hv q1
    · rw [h5, q2] at hk2; exact absurd hk2 q0
  · intro l a b x y hl hR hP hx hy hne hs kx ky _ _ _
    have g1 := kids_good hl hP.1.1 hx (by omega)
    have g2 := kids_good hl hP.1.2 hy (by omega)
    obtain ⟨_, p, np, h2, h3, h4, h5⟩ := hP
    rw [hx] at h4
    rw [hy] at h5
    rcases D.cases hR np h2 (by rw [← h4, ← h5]; exact hne.symm) with ⟨v, hv, q1, q2, q3, q4⟩ | ⟨k, n, ps, q0, n1, n2, n3, q2, q3⟩
    · rw [h5, q2] at ky; exact absurd rfl ky
    · rw [q3] at h4
      rw [q2] at h5
      subst h4; subst h5
      exact PR_kidsG ps l hl.idem n1 n2 (by omega) g1 g2
  · intro l a b x y hl hR hP hx hy hne
    obtain ⟨z1, z2⟩ := szs hR hP
    rw [hx] at z1
    rw [hy] at z2
    obtain ⟨_, p, np, h2, h3, h4, h5⟩ := hP
    rw [hx] at h4
    rw [hy] at h5
    refine ⟨by omega, ?_⟩
    rcases D.cases hR np h2 (by rw [← h4, ← h5]; exact hne.symm) with ⟨v, hv, q1, q2, q3, q4⟩ | ⟨k, n, ps, q0, _, _, _, q2, q3⟩
    · rw [h5, q2, h4, q3]
      refine ⟨fun hk hm => ?_, fun _ _ => q4, fun _ h => absurd rfl h⟩
      have e : (apT l (γ v)).name = φ v := by simpa [vr, tvs, tvss] using hm
      exact q4 (e ▸ var_in hk)
    · rw [h4, q3, h5, q2]
      refine ⟨fun h => absurd h q0, fun _ h => absurd h q0, fun _ _ => ⟨rfl, rfl, ?_⟩⟩
      simp only [apTs_len, apFs_map, List.length_map]
theorem RD.nil (va : List (List UInt8)) (γ : List UInt8 → TType) (φ : List UInt8 → List UInt8) : RD va γ φ [] := ⟨fun v _ => .inr ⟨by simp [dom], fun b hb => by simp at hb⟩, fun n _ h => by simp [lkp] at h⟩
end

end Go.Proofs.Ytopgfacbgbmloaa
