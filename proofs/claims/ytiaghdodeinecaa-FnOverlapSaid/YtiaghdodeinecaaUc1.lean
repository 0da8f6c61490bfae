/- Th1. Written by a program of mine (aw.py). -/
import Derived.Test.YtiaghdodeinecaaEng43
import Derived.Test.YtiaghdodeinecaaUn3
set_option linter.unusedVariables false
set_option linter.unusedSimpArgs false
set_option linter.unusedSectionVars false
namespace Go.Proofs.Ytiaghdodeinecaa
open Go Go.Eng
attribute [local irreducible] V VO VQ VY Quiet QR SpecP SpecO Rng PostP PostO PostG
/-! ### unification, by hand: variables, sizes, substitution -/
mutual
def tvs : TType → List (List UInt8)
  | ⟨k, n, ts⟩ => (if k = 1 then [n] else []) ++ tvss ts
def tvss : List TType → List (List UInt8)
  | [] => []
  | a :: ts => tvs a ++ tvss ts
end
theorem tvss_mem {v : List UInt8} : ∀ {ts : List TType}, v ∈ tvss ts ↔ ∃ t ∈ ts, v ∈ tvs t
  | [] => by simp [tvss]
  | a :: ts => by simp [tvss, tvss_mem (ts := ts)]
theorem wrap_sm {n : Int} (h0 : 0 ≤ n) (h1 : n ≤ 4611686018427387904) : IntKind.i64.wrap n = n := wrap_in n (by omega) (by omega)
mutual
theorem tvs_len : ∀ (t : TType), (tvs t).length ≤ tnd t
  | ⟨k, n, ts⟩ => by
    have := tvss_len ts
    simp only [tvs, tnd, List.length_append]
    split <;> simp <;> omega
theorem tvss_len : ∀ (ts : List TType), (tvss ts).length ≤ tnds ts
  | [] => by simp [tvss]
  | a :: ts => by
    have h1 := tvs_len a
    have h2 := tvss_len ts
    simp only [tvss, tnds, List.length_append]
    omega
end
theorem cnt_le (v : List UInt8) (l : List (List UInt8)) : l.count v ≤ l.length := List.count_le_length
mutual
theorem tsz_big : ∀ (t : TType), tnd t ≤ 4611686018427387904 → tsz t = tnd t
  | ⟨k, n, ts⟩, h => by
    simp only [tnd] at h
    simp only [tsz, tnd]
    rw [tszs_big ts 1 (by omega) (by omega)]
    omega
theorem tszs_big : ∀ (ts : List TType) (y : Int), 0 ≤ y → y + tnds ts ≤ 4611686018427387904 → tszs ts y = y + tnds ts
  | [], y, _, _ => by simp [tszs, tnds]
  | a :: ts, y, h0, h => by
    simp only [tnds] at h
    simp only [tszs, tnds]
    rw [tsz_big a (by omega), wrap_sm (by omega) (by omega), tszs_big ts _ (by omega) (by omega)]
    omega
end
mutual
theorem ctc_eq (v : List UInt8) : ∀ (t : TType) (n : Int), 0 ≤ n → n + tnd t ≤ 4611686018427387904 → ctc v n t = n + (tvs t).count v
  | ⟨k, s, ts⟩, n, h0, h => by
    simp only [tnd] at h
    have h1 : ∀ m : Int, (m = n ∨ m = n + 1) → ctcs v m ts = m + (tvss ts).count v := fun m hm => ctcs_eq v ts m (by omega) (by omega)
    simp only [ctc, tvs, List.count_append]
    by_cases hk : k = 1
    · subst hk
      by_cases hs : s = v
      · subst hs
        simp only [beq_self_eq_true, cnd_true, if_true, List.count_singleton]
        rw [wrap_sm (by omega) (by omega), h1 _ (.inr rfl)]
        simp
        omega
      · simp only [beq_self_eq_true, cnd_true, if_true, List.count_singleton, beq_false_of_ne hs, cnd_false]
        rw [h1 _ (.inl rfl)]
        simp
    · simp only [beq_false_of_ne hk, cnd_false, if_neg hk, List.count_nil, Nat.zero_add]
      exact h1 _ (.inl rfl)
theorem ctcs_eq (v : List UInt8) : ∀ (ts : List TType) (n : Int), 0 ≤ n → n + tnds ts ≤ 4611686018427387904 → ctcs v n ts = n + (tvss ts).count v
  | [], n, _, _ => by simp [ctcs, tvss]
  | a :: ts, n, h0, h => by
    simp only [tnds] at h
    have h2 := cnt_le v (tvs a)
    have h3 := tvs_len a
    simp only [ctcs, tvss, List.count_append]
    rw [ctc_eq v a n h0 (by omega), ctcs_eq v ts _ (by omega) (by omega)]
    omega
end
mutual
theorem ctn_eq (v : List UInt8) : ∀ (t : TType), tnd t ≤ 4611686018427387904 → ctn t v = (tvs t).count v
  | ⟨k, s, ts⟩, h => by
    simp only [tnd] at h
    have h1 : ∀ m : Int, (m = 0 ∨ m = 1) → ctns ts v m = m + (tvss ts).count v := fun m hm => ctns_eq v ts m (by omega) (by omega)
    simp only [ctn, tvs, List.count_append]
    by_cases hk : k = 1
    · subst hk
      by_cases hs : s = v
      · subst hs
        simp only [beq_self_eq_true, cnd_true, if_true, List.count_singleton]
        rw [h1 _ (.inr rfl)]
        simp
      · simp only [beq_self_eq_true, cnd_true, if_true, List.count_singleton, beq_false_of_ne hs, cnd_false]
        rw [h1 _ (.inl rfl)]
        simp
    · simp only [beq_false_of_ne hk, cnd_false, if_neg hk, List.count_nil, Nat.zero_add]
      rw [h1 _ (.inl rfl)]
      simp
theorem ctns_eq (v : List UInt8) : ∀ (ts : List TType) (n : Int), 0 ≤ n → n + tnds ts ≤ 4611686018427387904 → ctns ts v n = n + (tvss ts).count v
  | [], n, _, _ => by simp [ctns, tvss]
  | a :: ts, n, h0, h => by
    simp only [tnds] at h
    have h2 := cnt_le v (tvs a)
    have h3 := tvs_len a
    simp only [ctns, tvss, List.count_append]
    rw [ctn_eq v a (by omega), wrap_sm (by omega) (by omega), ctns_eq v ts _ (by omega) (by omega)]
    omega
end
theorem iOcc {v : List UInt8} {t : TType} (h : tnd t ≤ 4611686018427387904) : b_iOccurs v t = decide (v ∈ tvs t) := by
  have e : b_iCount t v = ((tvs t).count v : Int) := by
    show ctc v 0 t = _
    rw [ctc_eq v t 0 (by omega) (by omega)]
    simp
  simp only [b_iOccurs, e]
  by_cases hm : v ∈ tvs t
  · have := List.count_pos_iff.2 hm
    simp [hm]
  · simp [hm, List.count_eq_zero_of_not_mem hm]
theorem sOcc {v : List UInt8} {t : TType} (h : tnd t ≤ 4611686018427387904) : b_sOccurs v t = decide (v ∈ tvs t) := by
  simp only [b_sOccurs, ctn_eq v t h]
  by_cases hm : v ∈ tvs t
  · have := List.count_pos_iff.2 hm
    simp [hm]
  · simp [hm, List.count_eq_zero_of_not_mem hm]
def dom (l : List TBinding) : List (List UInt8) := l.map TBinding.var_
theorem lkp_out {v : List UInt8} : ∀ {l : List TBinding}, v ∉ dom l → (lkp v l).2 = false
  | [], _ => rfl
  | b :: l, h => by
    simp only [dom, List.map_cons, List.mem_cons, not_or] at h
    simp only [lkp]
    rw [beq_false_of_ne (fun e => h.1 e.symm)]
    exact lkp_out (l := l) h.2
theorem lkp_in {v : List UInt8} {l : List TBinding} (h : v ∈ dom l) : (lkp v l).2 = true := by
  cases hb : (lkp v l).2 with
  | true => rfl
  | false =>
    exfalso
    induction l with
    | nil => simp [dom] at h
    | cons b l ih =>
      simp only [lkp] at hb
      by_cases e : b.var_ = v
      · subst e; simp [cnd_true] at hb
      · rw [beq_false_of_ne e] at hb
        simp only [dom, List.map_cons, List.mem_cons] at h
        exact ih (h.resolve_left (fun e' => e e'.symm)) hb
mutual
theorem apT_out {l : List TBinding} : ∀ (t : TType), (∀ v ∈ tvs t, v ∉ dom l) → apT l t = t
  | ⟨k, n, ts⟩, h => by
    have h1 := apTs_out (l := l) ts (fun v hv => h v (by simp [tvs, hv]))
    simp only [apT, h1]
    by_cases hk : k = 1
    · rw [lkp_out (h n (by simp [tvs, hk]))]
      cases (k == 1) <;> rfl
    · rw [beq_false_of_ne hk]
      simp [cnd_false]
theorem apTs_out {l : List TBinding} : ∀ (ts : List TType), (∀ v ∈ tvss ts, v ∉ dom l) → apTs l ts = ts
  | [], _ => rfl
  | a :: ts, h => by
    simp only [apTs]
    rw [apT_out a (fun v hv => h v (by simp [tvss, hv])), apTs_out ts (fun v hv => h v (by simp [tvss, hv]))]
end
mutual
theorem tvs_ap {l : List TBinding} {v : List UInt8} : ∀ (t : TType), v ∈ tvs (apT l t) → (v ∈ tvs t ∧ v ∉ dom l) ∨ ∃ b ∈ l, v ∈ tvs b.type_
  | ⟨k, n, ts⟩, h => by
    have key : v ∈ tvss (apTs l ts) → (v ∈ tvs ⟨k, n, ts⟩ ∧ v ∉ dom l) ∨ ∃ b ∈ l, v ∈ tvs b.type_ := fun h => (tvss_ap ts h).imp (fun h => ⟨by simp [tvs, h.1], h.2⟩) id
    simp only [apT] at h
    by_cases hk : k = 1
    · subst hk
      cases hb : (lkp n l).2 with
      | true =>
        rw [hb] at h
        simp only [beq_self_eq_true, cnd_true] at h
        obtain ⟨b, h1, _, h3⟩ := lkp_mem hb
        rw [h3] at h
        exact .inr ⟨b, h1, h⟩
      | false =>
        rw [hb] at h
        simp only [beq_self_eq_true, cnd_true, cnd_false, tvs, if_true, List.mem_append, List.mem_singleton] at h
        rcases h with rfl | h
        · refine .inl ⟨by simp [tvs], fun hd => ?_⟩
          rw [lkp_in hd] at hb
          cases hb
        · exact key h
    · rw [beq_false_of_ne hk] at h
      simp only [cnd_false, tvs, if_neg hk, List.nil_append] at h
      exact key h
theorem tvss_ap {l : List TBinding} {v : List UInt8} : ∀ (ts : List TType), v ∈ tvss (apTs l ts) → (v ∈ tvss ts ∧ v ∉ dom l) ∨ ∃ b ∈ l, v ∈ tvs b.type_
  | [], h => by simp [apTs, tvss] at h
  | a :: ts, h => by
    simp only [apTs, tvss, List.mem_append] at h
    rcases h with h | h
    · exact (tvs_ap a h).imp (fun h => ⟨by simp [tvss, h.1], h.2⟩) id
    · exact (tvss_ap ts h).imp (fun h => ⟨by simp [tvss, h.1], h.2⟩) id
end
/-- A variable is bound. -/
def bindL (l : List TBinding) (v : List UInt8) (y : TType) : List TBinding := l.map (fun b => ⟨b.var_, apT [⟨v, y⟩] b.type_⟩) ++ [⟨v, y⟩]
theorem dom_bind (l : List TBinding) (v : List UInt8) (y : TType) : dom (bindL l v y) = dom l ++ [v] := by
  simp [dom, bindL]
theorem lkp_bind (v : List UInt8) (y : TType) (n : List UInt8) : ∀ (l : List TBinding), lkp n (bindL l v y) = cnd (lkp n l).2 (apT [⟨v, y⟩] (lkp n l).1, true) (lkp n [⟨v, y⟩])
  | [] => by simp [bindL, lkp, cnd_false]
  | b :: l => by
    have h := lkp_bind v y n l
    simp only [bindL, List.map_cons, List.cons_append, lkp] at h ⊢
    cases b.var_ == n with
    | true => simp [cnd_true]
    | false => simpa [cnd_false] using h
mutual
theorem apT_bind (l : List TBinding) (v : List UInt8) (y : TType) : ∀ (t : TType), apT (bindL l v y) t = apT [⟨v, y⟩] (apT l t)
  | ⟨k, n, ts⟩ => by
    have h1 := apTs_bind l v y ts
    simp only [apT, h1, lkp_bind]
    by_cases hk : k = 1
    · subst hk
      cases hb : (lkp n l).2 with
      | true => simp [cnd_true]
      | false => simp [apT, cnd_true, cnd_false]
    · rw [beq_false_of_ne hk]
      simp [apT, beq_false_of_ne hk, cnd_false]
theorem apTs_bind (l : List TBinding) (v : List UInt8) (y : TType) : ∀ (ts : List TType), apTs (bindL l v y) ts = apTs [⟨v, y⟩] (apTs l ts)
  | [] => rfl
  | a :: ts => by simp only [apTs, apT_bind l v y a, apTs_bind l v y ts]
end
end Go.Proofs.Ytiaghdodeinecaa
set_option linter.unusedVariables false
set_option linter.unusedSimpArgs false
set_option linter.unusedSectionVars false
namespace Go.Proofs.Ytiaghdodeinecaa
open Go Go.Eng
attribute [local irreducible] V VO VQ VY Quiet QR SpecP SpecO Rng PostP PostO PostG
/-! ### unification, by hand: variables without arguments, substitutions that solve -/
mutual
def tna : TType → Prop
  | ⟨k, _, ts⟩ => (k = 1 → ts = []) ∧ tnas ts
def tnas : List TType → Prop
  | [] => True
  | a :: ts => tna a ∧ tnas ts
end
def tnaB (l : List TBinding) : Prop := ∀ b ∈ l, tna b.type_
theorem lkp_no2 {v : List UInt8} : ∀ {l : List TBinding}, (lkp v l).2 = false → v ∉ dom l
  | [], _ => by simp [dom]
  | b :: l, h => by
    simp only [lkp] at h
    by_cases e : b.var_ = v
    · subst e; simp [cnd_true] at h
    · rw [beq_false_of_ne e] at h
      have := lkp_no2 (l := l) h
      simp only [dom, List.map_cons, List.mem_cons, not_or]
      exact ⟨fun e' => e e'.symm, this⟩
theorem apT_var1 (l : List TBinding) (v : List UInt8) (ts : List TType) (h : (lkp v l).2 = true) : apT l ⟨1, v, ts⟩ = (lkp v l).1 := by
  simp only [apT, beq_self_eq_true, cnd_true, h]
theorem apT_var0 (l : List TBinding) (v : List UInt8) (ts : List TType) (h : (lkp v l).2 = false) : apT l ⟨1, v, ts⟩ = ⟨1, v, apTs l ts⟩ := by
  simp only [apT, beq_self_eq_true, cnd_true, h, cnd_false]
theorem apT_con (l : List TBinding) (k : Int) (n : List UInt8) (ts : List TType) (h : k ≠ 1) : apT l ⟨k, n, ts⟩ = ⟨k, n, apTs l ts⟩ := by
  simp only [apT, beq_false_of_ne h, cnd_false]
mutual
theorem apT_tna {l : List TBinding} (hl : tnaB l) : ∀ (t : TType), tna t → tna (apT l t)
  | ⟨k, n, ts⟩, h => by
    simp only [tna] at h
    by_cases hk : k = 1
    · subst hk
      have := h.1 rfl
      subst this
      cases hb : (lkp n l).2 with
      | true =>
        rw [apT_var1 l n [] hb]
        obtain ⟨b, h1, _, h3⟩ := lkp_mem hb
        rw [h3]
        exact hl b h1
      | false => rw [apT_var0 l n [] hb]; simp [tna, apTs, tnas]
    · rw [apT_con l k n ts hk]
      simp only [tna]
      exact ⟨fun e => absurd e hk, apTs_tna hl ts h.2⟩
theorem apTs_tna {l : List TBinding} (hl : tnaB l) : ∀ (ts : List TType), tnas ts → tnas (apTs l ts)
  | [], _ => by simp [apTs, tnas]
  | a :: ts, h => by
    simp only [tnas] at h
    simp only [apTs, tnas]
    exact ⟨apT_tna hl a h.1, apTs_tna hl ts h.2⟩
end
mutual
/-- What a variable becomes is a part of what a type becomes in which it stands. -/
theorem tnd_var (s : List TBinding) (v : List UInt8) : ∀ (t : TType), tna t → v ∈ tvs t → tnd (apT s ⟨1, v, []⟩) ≤ tnd (apT s t)
  | ⟨k, n, ts⟩, h, hv => by
    simp only [tna] at h
    by_cases hk : k = 1
    · subst hk
      have := h.1 rfl
      subst this
      simp only [tvs, if_true, tvss, List.append_nil, List.mem_singleton] at hv
      subst hv
      exact Nat.le_refl _
    · have := tnds_var s v ts h.2 (by simpa [tvs, hk] using hv)
      rw [apT_con s k n ts hk]
      simp only [tnd]
      omega
theorem tnds_var (s : List TBinding) (v : List UInt8) : ∀ (ts : List TType), tnas ts → v ∈ tvss ts → tnd (apT s ⟨1, v, []⟩) ≤ tnds (apTs s ts)
  | [], _, hv => by simp [tvss] at hv
  | a :: ts, h, hv => by
    simp only [tnas] at h
    simp only [tvss, List.mem_append] at hv
    simp only [apTs, tnds]
    rcases hv with hv | hv
    · have := tnd_var s v a h.1 hv
      omega
    · have := tnds_var s v ts h.2 hv
      omega
end
theorem tna_var {x : TType} (h : tna x) (hk : x.kind = 1) : x = ⟨1, x.name, []⟩ := by
  obtain ⟨k, n, ts⟩ := x
  simp only at hk
  subst hk
  simp only [tna] at h
  have h0 := h.1 trivial
  subst h0
  rfl
/-- s solves l. -/
def Sol (s l : List TBinding) : Prop := ∀ t, tna t → apT s (apT l t) = apT s t
mutual
theorem ap_one (s : List TBinding) (v : List UInt8) (y : TType) (h : apT s ⟨1, v, []⟩ = apT s y) : ∀ (t : TType), tna t → apT s (apT [⟨v, y⟩] t) = apT s t
  | ⟨k, n, ts⟩, ht => by
    simp only [tna] at ht
    by_cases hk : k = 1
    · subst hk
      have := ht.1 rfl
      subst this
      by_cases hn : v = n
      · subst hn
        rw [apT_var1 _ _ _ (by simp [lkp, cnd_true])]
        simp only [lkp, beq_self_eq_true, cnd_true]
        exact h.symm
      · rw [apT_var0 _ _ _ (by simp [lkp, beq_false_of_ne hn, cnd_false])]
        rfl
    · rw [apT_con _ _ _ _ hk, apT_con _ _ _ _ hk, apT_con _ _ _ _ hk, aps_one s v y h ts ht.2]
theorem aps_one (s : List TBinding) (v : List UInt8) (y : TType) (h : apT s ⟨1, v, []⟩ = apT s y) : ∀ (ts : List TType), tnas ts → apTs s (apTs [⟨v, y⟩] ts) = apTs s ts
  | [], _ => rfl
  | a :: ts, ht => by
    simp only [tnas] at ht
    simp only [apTs]
    rw [ap_one s v y h a ht.1, aps_one s v y h ts ht.2]
end
theorem Sol.bind {s l : List TBinding} (h : Sol s l) (hl : tnaB l) {v : List UInt8} {y : TType} (hv : apT s ⟨1, v, []⟩ = apT s y) : Sol s (bindL l v y) := fun t ht => by
  rw [apT_bind, ap_one s v y hv _ (apT_tna hl t ht), h t ht]
theorem tnaB_bind {l : List TBinding} (hl : tnaB l) {v : List UInt8} {y : TType} (hy : tna y) : tnaB (bindL l v y) := by
  intro b hb
  simp only [bindL, List.mem_append, List.mem_map, List.mem_singleton] at hb
  rcases hb with ⟨c, hc, rfl⟩ | rfl
  · exact apT_tna (fun b hb => by simp at hb; subst hb; exact hy) _ (hl c hc)
  · exact hy
theorem Sol.nil (s : List TBinding) : Sol s [] := fun t _ => by rw [apT_out t (fun v _ hd => by simp [dom] at hd)]
theorem tnaB_nil : tnaB [] := fun b hb => by simp at hb
/-- The parts of what a substitution makes equal. -/
theorem parts_eq {s : List TBinding} {x y : TType} (hx : x.kind ≠ 1) (hy : y.kind ≠ 1) (h : apT s x = apT s y) : x.kind = y.kind ∧ x.name = y.name ∧ apTs s x.args = apTs s y.args := by
  obtain ⟨k, n, ts⟩ := x
  obtain ⟨k', n', ts'⟩ := y
  simp only at hx hy
  rw [apT_con _ _ _ _ hx, apT_con _ _ _ _ hy] at h
  injection h with h1 h2 h3
  exact ⟨h1, h2, h3⟩
theorem apTs_inj_len {s : List TBinding} {a b : List TType} (h : apTs s a = apTs s b) : a.length = b.length := by
  have := congrArg List.length h
  rwa [apTs_len, apTs_len] at this
theorem occ_lt {s : List TBinding} {v : List UInt8} {y : TType} (hy : tna y) (hk : y.kind ≠ 1) (hv : v ∈ tvs y) : apT s ⟨1, v, []⟩ ≠ apT s y := by
  intro e
  obtain ⟨k, n, ts⟩ := y
  simp only at hk
  simp only [tna] at hy
  have h1 := tnds_var s v ts hy.2 (by simpa [tvs, hk] using hv)
  have h2 := congrArg tnd e
  rw [apT_con _ _ _ _ hk] at h2
  simp only [tnd] at h2
  omega
theorem occ_var {v : List UInt8} {y : TType} (hy : tna y) (hk : y.kind = 1) (hv : v ∈ tvs y) : y = ⟨1, v, []⟩ := by
  have h := tna_var hy hk
  rw [h] at hv ⊢
  simp only [tvs, if_true, tvss, List.append_nil, List.mem_singleton] at hv
  rw [hv]
theorem tna_args {x : TType} (h : tna x) : tnas x.args := by
  obtain ⟨k, n, ts⟩ := x
  simp only [tna] at h
  exact h.2
end Go.Proofs.Ytiaghdodeinecaa
