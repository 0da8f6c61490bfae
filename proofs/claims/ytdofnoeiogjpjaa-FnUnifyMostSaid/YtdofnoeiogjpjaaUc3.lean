/- Uc1. Written by a program of mine (aw.py). -/
import Derived.Test.YtdofnoeiogjpjaaFacts
import Derived.Test.YtdofnoeiogjpjaaTh1
import Derived.Test.YtdofnoeiogjpjaaUn5
set_option linter.unusedVariables false
set_option linter.unusedSimpArgs false
set_option linter.unusedSectionVars false
namespace Go.Proofs.Ytdofnoeiogjpjaa
open Go Go.Eng
attribute [local irreducible] V VO VQ VY Quiet QR SpecP SpecO MSpec Rng PostP PostO PostG
/-! ### unification, by hand: variables without arguments, substitutions that solve -/
mutual
def tna : TType → Prop
  | ⟨k, _, ts⟩ => (k = 1 → ts = []) ∧ tnas ts
def tnas : List TType → Prop
  | [] => True
  | a :: ts => tna a ∧ tnas ts
end
theorem tnas_iff : ∀ {ts : List TType}, tnas ts ↔ ∀ t ∈ ts, tna t
  | [] => by simp [tnas]
  | a :: ts => by simp [tnas, tnas_iff (ts := ts)]
def tnaB (l : List TBinding) : Prop := ∀ b ∈ l, tna b.type_
theorem lkp_no2 {v : List UInt8} : ∀ {l : List TBinding}, (lkp v l).2 = false → v ∉ dom l
  | [], _ => by simp [dom]
  | b :: l, h => by
    simp only [lkp] at h
    by_cases e : b.var_ = v
    · subst e; simp [cnd_true] at h
    · rw [beq_false_of_ne e] at h
      have := lkp_no2 (l := l) h
      simp only [dom, List.map_cons, List.mem_cons, not_or]
      exact ⟨fun e' => e e'.symm, this⟩
theorem apT_var1 (l : List TBinding) (v : List UInt8) (ts : List TType) (h : (lkp v l).2 = true) : apT l ⟨1, v, ts⟩ = (lkp v l).1 := by
  simp only [apT, beq_self_eq_true, cnd_true, h]
theorem apT_var0 (l : List TBinding) (v : List UInt8) (ts : List TType) (h : (lkp v l).2 = false) : apT l ⟨1, v, ts⟩ = ⟨1, v, apTs l ts⟩ := by
  simp only [apT, beq_self_eq_true, cnd_true, h, cnd_false]
theorem apT_con (l : List TBinding) (k : Int) (n : List UInt8) (ts : List TType) (h : k ≠ 1) : apT l ⟨k, n, ts⟩ = ⟨k, n, apTs l ts⟩ := by
  simp only [apT, beq_false_of_ne h, cnd_false]
mutual
theorem apT_tna {l : List TBinding} (hl : tnaB l) : ∀ (t : TType), tna t → tna (apT l t)
  | ⟨k, n, ts⟩, h => by
    simp only [tna] at h
    by_cases hk : k = 1
    · subst hk
      have := h.1 rfl
      subst this
      cases hb : (lkp n l).2 with
      | true =>
        rw [apT_var1 l n [] hb]
        obtain ⟨b, h1, _, h3⟩ := lkp_mem hb
        rw [h3]
        exact hl b h1
      | false => rw [apT_var0 l n [] hb]; simp [tna, apTs, tnas]
    · rw [apT_con l k n ts hk]
      simp only [tna]
      exact ⟨fun e => absurd e hk, apTs_tna hl ts h.2⟩
theorem apTs_tna {l : List TBinding} (hl : tnaB l) : ∀ (ts : List TType), tnas ts → tnas (apTs l ts)
  | [], _ => by simp [apTs, tnas]
  | a :: ts, h => by
    simp only [tnas] at h
    simp only [apTs, tnas]
    exact ⟨apT_tna hl a h.1, apTs_tna hl ts h.2⟩
end
mutual
/-- A type is no greater than its instances. -/
theorem tnd_ap (s : List TBinding) : ∀ (t : TType), tna t → tnd t ≤ tnd (apT s t)
  | ⟨k, n, ts⟩, h => by
    simp only [tna] at h
    by_cases hk : k = 1
    · subst hk
      have := h.1 rfl
      subst this
      have := tnd_pos (apT s ⟨1, n, []⟩)
      simp only [tnd, tnds]
      omega
    · rw [apT_con s k n ts hk]
      have := tnds_ap s ts h.2
      simp only [tnd]
      omega
theorem tnds_ap (s : List TBinding) : ∀ (ts : List TType), tnas ts → tnds ts ≤ tnds (apTs s ts)
  | [], _ => by simp [apTs, tnds]
  | a :: ts, h => by
    simp only [tnas] at h
    have h1 := tnd_ap s a h.1
    have h2 := tnds_ap s ts h.2
    simp only [apTs, tnds]
    omega
end
mutual
/-- What a variable becomes is a part of what a type becomes in which it stands. -/
theorem tnd_var (s : List TBinding) (v : List UInt8) : ∀ (t : TType), tna t → v ∈ tvs t → tnd (apT s ⟨1, v, []⟩) ≤ tnd (apT s t)
  | ⟨k, n, ts⟩, h, hv => by
    simp only [tna] at h
    by_cases hk : k = 1
    · subst hk
      have := h.1 rfl
      subst this
      simp only [tvs, if_true, tvss, List.append_nil, List.mem_singleton] at hv
      subst hv
      exact Nat.le_refl _
    · have := tnds_var s v ts h.2 (by simpa [tvs, hk] using hv)
      rw [apT_con s k n ts hk]
      simp only [tnd]
      omega
theorem tnds_var (s : List TBinding) (v : List UInt8) : ∀ (ts : List TType), tnas ts → v ∈ tvss ts → tnd (apT s ⟨1, v, []⟩) ≤ tnds (apTs s ts)
  | [], _, hv => by simp [tvss] at hv
  | a :: ts, h, hv => by
    simp only [tnas] at h
    simp only [tvss, List.mem_append] at hv
    simp only [apTs, tnds]
    rcases hv with hv | hv
    · have := tnd_var s v a h.1 hv
      omega
    · have := tnds_var s v ts h.2 hv
      omega
end
theorem tna_var {x : TType} (h : tna x) (hk : x.kind = 1) : x = ⟨1, x.name, []⟩ := by
  obtain ⟨k, n, ts⟩ := x
  simp only at hk
  subst hk
  simp only [tna] at h
  have h0 := h.1 trivial
  subst h0
  rfl
/-- s solves l. -/
def Sol (s l : List TBinding) : Prop := ∀ t, tna t → apT s (apT l t) = apT s t
mutual
theorem ap_one (s : List TBinding) (v : List UInt8) (y : TType) (h : apT s ⟨1, v, []⟩ = apT s y) : ∀ (t : TType), tna t → apT s (apT [⟨v, y⟩] t) = apT s t
  | ⟨k, n, ts⟩, ht => by
    simp only [tna] at ht
    by_cases hk : k = 1
    · subst hk
      have := ht.1 rfl
      subst this
      by_cases hn : v = n
      · subst hn
        rw [apT_var1 _ _ _ (by simp [lkp, cnd_true])]
        simp only [lkp, beq_self_eq_true, cnd_true]
        exact h.symm
      · rw [apT_var0 _ _ _ (by simp [lkp, beq_false_of_ne hn, cnd_false])]
        rfl
    · rw [apT_con _ _ _ _ hk, apT_con _ _ _ _ hk, apT_con _ _ _ _ hk, aps_one s v y h ts ht.2]
theorem aps_one (s : List TBinding) (v : List UInt8) (y : TType) (h : apT s ⟨1, v, []⟩ = apT s y) : ∀ (ts : List TType), tnas ts → apTs s (apTs [⟨v, y⟩] ts) = apTs s ts
  | [], _ => rfl
  | a :: ts, ht => by
    simp only [tnas] at ht
    simp only [apTs]
    rw [ap_one s v y h a ht.1, aps_one s v y h ts ht.2]
end
theorem Sol.bind {s l : List TBinding} (h : Sol s l) (hl : tnaB l) {v : List UInt8} {y : TType} (hv : apT s ⟨1, v, []⟩ = apT s y) : Sol s (bindL l v y) := fun t ht => by
  rw [apT_bind, ap_one s v y hv _ (apT_tna hl t ht), h t ht]
theorem tnaB_bind {l : List TBinding} (hl : tnaB l) {v : List UInt8} {y : TType} (hy : tna y) : tnaB (bindL l v y) := by
  intro b hb
  simp only [bindL, List.mem_append, List.mem_map, List.mem_singleton] at hb
  rcases hb with ⟨c, hc, rfl⟩ | rfl
  · exact apT_tna (fun b hb => by simp at hb; subst hb; exact hy) _ (hl c hc)
  · exact hy
theorem Sol.nil (s : List TBinding) : Sol s [] := fun t _ => by rw [apT_out t (fun v _ hd => by simp [dom] at hd)]
theorem tnaB_nil : tnaB [] := fun b hb => by simp at hb
/-- The parts of what a substitution makes equal. -/
theorem parts_eq {s : List TBinding} {x y : TType} (hx : x.kind ≠ 1) (hy : y.kind ≠ 1) (h : apT s x = apT s y) : x.kind = y.kind ∧ x.name = y.name ∧ apTs s x.args = apTs s y.args := by
  obtain ⟨k, n, ts⟩ := x
  obtain ⟨k', n', ts'⟩ := y
  simp only at hx hy
  rw [apT_con _ _ _ _ hx, apT_con _ _ _ _ hy] at h
  injection h with h1 h2 h3
  exact ⟨h1, h2, h3⟩
theorem apTs_inj_len {s : List TBinding} {a b : List TType} (h : apTs s a = apTs s b) : a.length = b.length := by
  have := congrArg List.length h
  rwa [apTs_len, apTs_len] at this
theorem apTs_get {s : List TBinding} {a b : List TType} (h : apTs s a = apTs s b) {i : Nat} {x y : TType} (hx : a[i]? = some x) (hy : b[i]? = some y) : apT s x = apT s y := by
  rw [apTs_map, apTs_map] at h
  have := congrArg (fun l => l[i]?) h
  simp only [List.getElem?_map, hx, hy, Option.map_some, Option.some.injEq] at this
  exact this
theorem occ_lt {s : List TBinding} {v : List UInt8} {y : TType} (hy : tna y) (hk : y.kind ≠ 1) (hv : v ∈ tvs y) : apT s ⟨1, v, []⟩ ≠ apT s y := by
  intro e
  obtain ⟨k, n, ts⟩ := y
  simp only at hk
  simp only [tna] at hy
  have h1 := tnds_var s v ts hy.2 (by simpa [tvs, hk] using hv)
  have h2 := congrArg tnd e
  rw [apT_con _ _ _ _ hk] at h2
  simp only [tnd] at h2
  omega
theorem occ_var {v : List UInt8} {y : TType} (hy : tna y) (hk : y.kind = 1) (hv : v ∈ tvs y) : y = ⟨1, v, []⟩ := by
  have h := tna_var hy hk
  rw [h] at hv ⊢
  simp only [tvs, if_true, tvss, List.append_nil, List.mem_singleton] at hv
  rw [hv]
theorem tna_args {x : TType} (h : tna x) : tnas x.args := by
  obtain ⟨k, n, ts⟩ := x
  simp only [tna] at h
  exact h.2

end Go.Proofs.Ytdofnoeiogjpjaa
set_option linter.unusedVariables false
set_option linter.unusedSimpArgs false
set_option linter.unusedSectionVars false
namespace Go.Proofs.Ytdofnoeiogjpjaa
open Go Go.Eng
attribute [local irreducible] V VO VQ VY Quiet QR SpecP SpecO MSpec Rng PostP PostO PostG
/-! ### unification, by hand: runs -/
/-- A run over a row of pairs; where β holds the limit on sizes may stop it. -/
inductive UR (β : Prop) : List TBinding → List TType → List TType → Option (List TBinding) → Prop
  | nil {l : List TBinding} : UR β l [] [] (some l)
  | eq {l : List TBinding} {a b : TType} {as_ bs : List TType} {r : Option (List TBinding)} (h : apT l a = apT l b) (h2 : UR β l as_ bs r) : UR β l (a :: as_) (b :: bs) r
  | big {l : List TBinding} {a b : TType} {as_ bs : List TType} (hβ : β) (h : apT l a ≠ apT l b) (h2 : 4000 < tnd (apT l a) + tnd (apT l b)) : UR β l (a :: as_) (b :: bs) none
  | bx {l : List TBinding} {a b x y : TType} {as_ bs : List TType} {r : Option (List TBinding)} (hx : apT l a = x) (hy : apT l b = y) (h : x ≠ y) (hk : x.kind = 1) (ho : x.name ∉ tvs y) (h2 : UR β (bindL l x.name y) as_ bs r) : UR β l (a :: as_) (b :: bs) r
  | ox {l : List TBinding} {a b x y : TType} {as_ bs : List TType} (hx : apT l a = x) (hy : apT l b = y) (h : x ≠ y) (hk : x.kind = 1) (ho : x.name ∈ tvs y) : UR β l (a :: as_) (b :: bs) none
  | bv {l : List TBinding} {a b x y : TType} {as_ bs : List TType} {r : Option (List TBinding)} (hx : apT l a = x) (hy : apT l b = y) (h : x ≠ y) (hk : x.kind ≠ 1) (hk2 : y.kind = 1) (ho : y.name ∉ tvs x) (h2 : UR β (bindL l y.name x) as_ bs r) : UR β l (a :: as_) (b :: bs) r
  | ov {l : List TBinding} {a b x y : TType} {as_ bs : List TType} (hx : apT l a = x) (hy : apT l b = y) (h : x ≠ y) (hk : x.kind ≠ 1) (hk2 : y.kind = 1) (ho : y.name ∈ tvs x) : UR β l (a :: as_) (b :: bs) none
  | clash {l : List TBinding} {a b x y : TType} {as_ bs : List TType} (hx : apT l a = x) (hy : apT l b = y) (hk : x.kind ≠ 1) (hk2 : y.kind ≠ 1) (hc : ¬ (x.kind = y.kind ∧ x.name = y.name ∧ x.args.length = y.args.length)) : UR β l (a :: as_) (b :: bs) none
  | deep {l l1 : List TBinding} {a b x y : TType} {as_ bs : List TType} {r : Option (List TBinding)} (hx : apT l a = x) (hy : apT l b = y) (hk : x.kind ≠ 1) (hk2 : y.kind ≠ 1) (h1 : UR β l x.args y.args (some l1)) (h2 : UR β l1 as_ bs r) : UR β l (a :: as_) (b :: bs) r
  | deepN {l : List TBinding} {a b x y : TType} {as_ bs : List TType} (hx : apT l a = x) (hy : apT l b = y) (hk : x.kind ≠ 1) (hk2 : y.kind ≠ 1) (h1 : UR β l x.args y.args none) : UR β l (a :: as_) (b :: bs) none
/-- Where there is a solution, a run that no limit stops comes through; the solution solves what comes out. -/
theorem UR.complete {s l : List TBinding} {as_ bs : List TType} {r : Option (List TBinding)} (h : UR False l as_ bs r) : Sol s l → tnaB l → tnas as_ → tnas bs → apTs s as_ = apTs s bs → ∃ l', r = some l' ∧ Sol s l' ∧ tnaB l' := by
  induction h with
  | nil => exact fun h1 h2 _ _ _ => ⟨_, rfl, h1, h2⟩
  | eq h _ ih =>
    intro h1 h2 h3 h4 h5
    simp only [tnas] at h3 h4
    simp only [apTs, List.cons.injEq] at h5
    exact ih h1 h2 h3.2 h4.2 h5.2
  | big hβ => exact hβ.elim
  | bx hx hy h hk ho _ ih =>
    intro h1 h2 h3 h4 h5
    simp only [tnas] at h3 h4
    simp only [apTs, List.cons.injEq] at h5
    have hxn : tna _ := hx ▸ apT_tna h2 _ h3.1
    have hyn : tna _ := hy ▸ apT_tna h2 _ h4.1
    have e := tna_var hxn hk
    have hs : apT _ _ = apT _ _ := (h1 _ h3.1).trans (h5.1.trans (h1 _ h4.1).symm)
    rw [hx, hy, e] at hs
    exact ih (h1.bind h2 hs) (tnaB_bind h2 hyn) h3.2 h4.2 h5.2
  | ox hx hy h hk ho =>
    intro h1 h2 h3 h4 h5
    simp only [tnas] at h3 h4
    simp only [apTs, List.cons.injEq] at h5
    have hxn : tna _ := hx ▸ apT_tna h2 _ h3.1
    have hyn : tna _ := hy ▸ apT_tna h2 _ h4.1
    have e := tna_var hxn hk
    have hs : apT _ _ = apT _ _ := (h1 _ h3.1).trans (h5.1.trans (h1 _ h4.1).symm)
    rw [hx, hy, e] at hs
    exfalso
    rename_i x y _ _
    by_cases hk2 : y.kind = 1
    · exact h (e.trans (occ_var hyn hk2 ho).symm)
    · exact occ_lt hyn hk2 ho hs
  | bv hx hy h hk hk2 ho _ ih =>
    intro h1 h2 h3 h4 h5
    simp only [tnas] at h3 h4
    simp only [apTs, List.cons.injEq] at h5
    have hxn : tna _ := hx ▸ apT_tna h2 _ h3.1
    have hyn : tna _ := hy ▸ apT_tna h2 _ h4.1
    have e := tna_var hyn hk2
    have hs : apT _ _ = apT _ _ := (h1 _ h4.1).trans (h5.1.symm.trans (h1 _ h3.1).symm)
    rw [hx, hy, e] at hs
    exact ih (h1.bind h2 hs) (tnaB_bind h2 hxn) h3.2 h4.2 h5.2
  | ov hx hy h hk hk2 ho =>
    intro h1 h2 h3 h4 h5
    simp only [tnas] at h3 h4
    simp only [apTs, List.cons.injEq] at h5
    have hxn : tna _ := hx ▸ apT_tna h2 _ h3.1
    have hyn : tna _ := hy ▸ apT_tna h2 _ h4.1
    have e := tna_var hyn hk2
    have hs : apT _ _ = apT _ _ := (h1 _ h4.1).trans (h5.1.symm.trans (h1 _ h3.1).symm)
    rw [hx, hy, e] at hs
    exact (occ_lt hxn hk ho hs).elim
  | clash hx hy hk hk2 hc =>
    intro h1 h2 h3 h4 h5
    simp only [tnas] at h3 h4
    simp only [apTs, List.cons.injEq] at h5
    have hs : apT _ _ = apT _ _ := (h1 _ h3.1).trans (h5.1.trans (h1 _ h4.1).symm)
    rw [hx, hy] at hs
    obtain ⟨e1, e2, e3⟩ := parts_eq hk hk2 hs
    exact (hc ⟨e1, e2, apTs_inj_len e3⟩).elim
  | deep hx hy hk hk2 _ _ ih1 ih2 =>
    intro h1 h2 h3 h4 h5
    simp only [tnas] at h3 h4
    simp only [apTs, List.cons.injEq] at h5
    have hxn : tna _ := hx ▸ apT_tna h2 _ h3.1
    have hyn : tna _ := hy ▸ apT_tna h2 _ h4.1
    have hs : apT _ _ = apT _ _ := (h1 _ h3.1).trans (h5.1.trans (h1 _ h4.1).symm)
    rw [hx, hy] at hs
    obtain ⟨e1, e2, e3⟩ := parts_eq hk hk2 hs
    obtain ⟨l', q1, q2, q3⟩ := ih1 h1 h2 (tna_args hxn) (tna_args hyn) e3
    cases q1
    exact ih2 q2 q3 h3.2 h4.2 h5.2
  | deepN hx hy hk hk2 _ ih =>
    intro h1 h2 h3 h4 h5
    simp only [tnas] at h3 h4
    simp only [apTs, List.cons.injEq] at h5
    have hxn : tna _ := hx ▸ apT_tna h2 _ h3.1
    have hyn : tna _ := hy ▸ apT_tna h2 _ h4.1
    have hs : apT _ _ = apT _ _ := (h1 _ h3.1).trans (h5.1.trans (h1 _ h4.1).symm)
    rw [hx, hy] at hs
    obtain ⟨e1, e2, e3⟩ := parts_eq hk hk2 hs
    obtain ⟨l', q1, _⟩ := ih h1 h2 (tna_args hxn) (tna_args hyn) e3
    cases q1

end Go.Proofs.Ytdofnoeiogjpjaa
set_option linter.unusedVariables false
set_option linter.unusedSimpArgs false
set_option linter.unusedSectionVars false
namespace Go.Proofs.Ytdofnoeiogjpjaa
open Go Go.Eng
attribute [local irreducible] V VO VQ VY Quiet QR SpecP SpecO MSpec Rng PostP PostO PostG
/-! ### unification, by hand: what binds, and what comes out -/
structure Inv (V : List (List UInt8)) (l : List TBinding) : Prop where
  nd : (dom l).Nodup
  dv : ∀ v ∈ dom l, v ∈ V
  rv : ∀ b ∈ l, ∀ v ∈ tvs b.type_, v ∈ V ∧ v ∉ dom l
  sz : ∀ b ∈ l, tnd b.type_ ≤ 4000 ^ l.length
  ok : bok l
structure Good (V : List (List UInt8)) (t : TType) : Prop where
  vs : ∀ v ∈ tvs t, v ∈ V
  sz : tnd t ≤ 4000
  ok : tok t
theorem nodup_le : ∀ {l V : List (List UInt8)}, l.Nodup → (∀ v ∈ l, v ∈ V) → l.length ≤ V.length
  | [], _, _, _ => Nat.zero_le _
  | a :: l, V, h, hs => by
    obtain ⟨h1, h2⟩ := List.nodup_cons.1 h
    have ha : a ∈ V := hs a (by simp)
    have h3 : l.length ≤ (V.erase a).length := nodup_le h2 (fun v hv => (List.mem_erase_of_ne (fun e => h1 (by rw [← e]; exact hv))).2 (hs v (by simp [hv])))
    rw [List.length_erase_of_mem ha] at h3
    have := List.length_pos_of_mem ha
    simp only [List.length_cons]
    omega
theorem p4 (n : Nat) : 1 ≤ 4000 ^ n := by
  induction n with
  | zero => simp
  | succ n ih => rw [Nat.pow_succ]; omega
section
variable {V : List (List UInt8)} {l : List TBinding}
theorem Inv.len (h : Inv V l) (hV : V.length ≤ 4) : l.length ≤ 4 := by
  have := nodup_le h.nd h.dv
  simp only [dom, List.length_map] at this
  omega
theorem pow_le4 {n : Nat} (h : n ≤ 4) : 4000 ^ n ≤ 256000000000000 := by
  rcases n with _ | _ | _ | _ | _ | n
  · decide
  · decide
  · decide
  · decide
  · decide
  · omega
theorem Inv.big (h : Inv V l) (hV : V.length ≤ 4) {t : TType} (ht : tnd t ≤ 4000) : tnd (apT l t) ≤ 1024000000000000000 := by
  have h1 := apT_tnd (M := 4000 ^ l.length) ⟨p4 _, h.sz⟩ t
  have h2 := pow_le4 (h.len hV)
  have h3 : 4000 ^ l.length * tnd t ≤ 256000000000000 * 4000 := Nat.mul_le_mul h2 ht
  omega
theorem Inv.vars (h : Inv V l) {t : TType} (ht : Good V t) : ∀ v ∈ tvs (apT l t), v ∈ V ∧ v ∉ dom l := by
  intro v hv
  rcases tvs_ap t hv with ⟨h1, h2⟩ | ⟨b, h1, h2⟩
  · exact ⟨ht.vs v h1, h2⟩
  · exact h.rv b h1 v h2
theorem Inv.idem (h : Inv V l) (t : TType) : apT l (apT l t) = apT l t := apT_out _ (fun v hv => by
  rcases tvs_ap t hv with ⟨_, h2⟩ | ⟨b, h1, h2⟩
  · exact h2
  · exact (h.rv b h1 v h2).2)
theorem tvs_one {v w : List UInt8} {y : TType} {t : TType} (h : w ∈ tvs (apT [⟨v, y⟩] t)) : (w ∈ tvs t ∧ w ≠ v) ∨ w ∈ tvs y := by
  rcases tvs_ap t h with ⟨h1, h2⟩ | ⟨b, h1, h2⟩
  · exact .inl ⟨h1, by simpa [dom] using h2⟩
  · simp only [List.mem_singleton] at h1
    subst h1
    exact .inr h2
theorem Inv.bind (h : Inv V l) {v : List UInt8} {y : TType} (hv : v ∈ V ∧ v ∉ dom l) (hy : ∀ w ∈ tvs y, w ∈ V ∧ w ∉ dom l) (hn : v ∉ tvs y) (hs : tnd y ≤ 4000) (ho : tok y) : Inv V (bindL l v y) := by
  have hlen : (bindL l v y).length = l.length + 1 := by simp [bindL]
  have hone : bnds 4000 [⟨v, y⟩] := ⟨by decide, by simpa using hs⟩
  have hp : 4000 ^ (l.length + 1) = 4000 ^ l.length * 4000 := by rw [Nat.pow_succ]
  have hpos : 1 ≤ 4000 ^ l.length := p4 _
  refine ⟨?_, ?_, ?_, ?_, ?_⟩
  · rw [dom_bind]
    refine List.nodup_append.2 ⟨h.nd, by simp, fun a ha b hb hab => ?_⟩
    simp only [List.mem_singleton] at hb
    subst hb; subst hab
    exact hv.2 ha
  · intro w hw
    rw [dom_bind] at hw
    simp only [List.mem_append, List.mem_singleton] at hw
    rcases hw with hw | rfl
    · exact h.dv w hw
    · exact hv.1
  · intro b hb w hw
    rw [dom_bind]
    simp only [bindL, List.mem_append, List.mem_map, List.mem_singleton] at hb ⊢
    have hY : w ∈ tvs y → w ∈ V ∧ ¬ (w ∈ dom l ∨ w = v) := fun hw => ⟨(hy w hw).1, fun h => h.elim (hy w hw).2 (fun e => hn (e ▸ hw))⟩
    rcases hb with ⟨c, hc, rfl⟩ | rfl
    · rcases tvs_one hw with ⟨h1, h2⟩ | h1
      · have := h.rv c hc w h1
        exact ⟨this.1, fun h => h.elim this.2 h2⟩
      · exact hY h1
    · exact hY hw
  · intro b hb
    rw [hlen, hp]
    simp only [bindL, List.mem_append, List.mem_map, List.mem_singleton] at hb
    rcases hb with ⟨c, hc, rfl⟩ | rfl
    · have h1 := apT_tnd hone c.type_
      have h2 := h.sz c hc
      have h3 : 4000 * tnd c.type_ ≤ 4000 * 4000 ^ l.length := Nat.mul_le_mul_left _ h2
      show tnd (apT [⟨v, y⟩] c.type_) ≤ _
      omega
    · show tnd y ≤ _
      omega
  · intro b hb
    simp only [bindL, List.mem_append, List.mem_map, List.mem_singleton] at hb
    rcases hb with ⟨c, hc, rfl⟩ | rfl
    · exact apT_tok (fun b hb => by simp at hb; subst hb; exact ho) _ (h.ok c hc)
    · exact ho
end
/-- What comes out of a row of pairs. -/
structure Post (V : List (List UInt8)) (l l' : List TBinding) (as_ bs : List TType) : Prop where
  inv : Inv V l'
  grow : l' = l ∨ l.length < l'.length
  ext : ∀ t, apT l' (apT l t) = apT l' t
  eq : apTs l' as_ = apTs l' bs
theorem l2_eq (y : TType) (x : TType) (k : List TBinding → Option (Bool × List TBinding)) (hb : bok [⟨x.name, y⟩]) : ∀ (m j : Nat) (l : List TBinding), l.length = j + m → (∀ b ∈ l.drop j, tok b.type_) → b_iUnify_l2 y x k m j l = k (l.take j ++ (l.drop j).map (fun b => ⟨b.var_, apT [⟨x.name, y⟩] b.type_⟩))
  | 0, j, l, h, _ => by
    simp only [b_iUnify_l2]
    rw [List.take_of_length_le (by omega), List.drop_of_length_le (by omega)]
    simp
  | m + 1, j, l, h, ht => by
    have hj : j < l.length := by omega
    have hd := List.drop_eq_getElem_cons hj
    have ht0 : tok l[j].type_ := ht _ (by rw [hd]; exact List.mem_cons_self)
    simp only [b_iUnify_l2, at_nat]
    rw [List.getElem?_eq_getElem hj]
    simp only [bnd, lt_]
    rw [gd_eq ⟨hb, ht0⟩, l2_eq y x k hb m (j + 1) _ (by simp; omega) (fun b hb' => ht b (by
      rw [List.drop_set_of_lt (by omega)] at hb'
      rw [hd]; exact List.mem_cons_of_mem _ hb')), hd, List.drop_set_of_lt (by omega), take_set_succ hj, List.map_cons, List.append_assoc]
    rfl
theorem l3_eq (x : TType) (y : TType) (k : List TBinding → Option (Bool × List TBinding)) (hb : bok [⟨x.name, y⟩]) : ∀ (m j : Nat) (l : List TBinding), l.length = j + m → (∀ b ∈ l.drop j, tok b.type_) → b_iUnify_l3 x y k m j l = k (l.take j ++ (l.drop j).map (fun b => ⟨b.var_, apT [⟨x.name, y⟩] b.type_⟩))
  | 0, j, l, h, _ => by
    simp only [b_iUnify_l3]
    rw [List.take_of_length_le (by omega), List.drop_of_length_le (by omega)]
    simp
  | m + 1, j, l, h, ht => by
    have hj : j < l.length := by omega
    have hd := List.drop_eq_getElem_cons hj
    have ht0 : tok l[j].type_ := ht _ (by rw [hd]; exact List.mem_cons_self)
    simp only [b_iUnify_l3, at_nat]
    rw [List.getElem?_eq_getElem hj]
    simp only [bnd, lt_]
    rw [gd_eq ⟨hb, ht0⟩, l3_eq x y k hb m (j + 1) _ (by simp; omega) (fun b hb' => ht b (by
      rw [List.drop_set_of_lt (by omega)] at hb'
      rw [hd]; exact List.mem_cons_of_mem _ hb')), hd, List.drop_set_of_lt (by omega), take_set_succ hj, List.map_cons, List.append_assoc]
    rfl
theorem sBound_l1_eq (v : List UInt8) (y : TType) (hb : bok [⟨v, y⟩]) : ∀ (xs r : List TBinding), (∀ b ∈ xs, tok b.type_) → r.length + xs.length ≤ 4000000 → b_sBound_l1 v y xs r = some (r ++ xs.map (fun b => ⟨b.var_, apT [⟨v, y⟩] b.type_⟩) ++ [⟨v, y⟩])
  | [], r, _, h => by
    simp only [b_sBound_l1, lt_, idT]
    rw [gd_eq (hb ⟨v, y⟩ (by simp)), gd_eq (by simp at h ⊢; omega)]
    simp
  | x :: xs, r, ht, h => by
    simp only [List.length_cons] at h
    simp only [b_sBound_l1, lt_]
    rw [gd_eq ⟨hb, ht x (by simp)⟩, gd_eq (by simp; omega), sBound_l1_eq v y hb xs _ (fun b hb' => ht b (by simp [hb'])) (by simp; omega)]
    simp
theorem sBound_eq (l : List TBinding) (v : List UInt8) (y : TType) (hl : bok l) (hy : tok y) (h : l.length ≤ 4) : b_sBound l v y = some (bindL l v y) := by
  unfold b_sBound
  rw [sBound_l1_eq v y (fun b hb => by simp at hb; subst hb; exact hy) l [] hl (by simp; omega)]
  simp [bindL]

/-! ### unification, by hand: the two programs' steps -/
/-- What the program answers, and what the reference answers, where r comes out. -/
def resI : Option (List TBinding) → Bool × List TBinding
  | none => (false, [])
  | some l => (true, l)
def ResS : Option (List TBinding) → List TBinding × Bool → Prop
  | none, p => p.2 = false
  | some l, p => p = (l, true)
theorem ap_var {v : List UInt8} {y x : TType} (hk : x.kind = 1) (hv : x.name = v) : apT [⟨v, y⟩] x = y := by
  obtain ⟨k, n, ts⟩ := x
  simp only at hk hv
  subst hk; subst hv
  simp [apT, lkp, cnd_true]
theorem ap_no {v : List UInt8} {y : TType} (hn : v ∉ tvs y) : apT [⟨v, y⟩] y = y := apT_out y (fun w hw hd => by
  simp only [dom, List.map_cons, List.map_nil, List.mem_singleton] at hd
  subst hd
  exact hn hw)
theorem var_in {x : TType} (hk : x.kind = 1) : x.name ∈ tvs x := by
  obtain ⟨k, n, ts⟩ := x
  simp only at hk
  subst hk
  simp [tvs]
theorem apTs_args {l l' : List TBinding} {x y : TType} (hk : x.kind = y.kind) (hn : x.name = y.name) (h1 : x.kind ≠ 1) (h : apTs l' x.args = apTs l' y.args) : apT l' x = apT l' y := by
  obtain ⟨k, n, ts⟩ := x
  obtain ⟨k', n', ts'⟩ := y
  simp only at hk hn h1 h
  subst hk; subst hn
  simp only [apT, beq_false_of_ne h1, cnd_false, h]
theorem tall_mem {ts : List TType} (h : tall ts) : ∀ t ∈ ts, tok t := tall_iff.1 h
theorem args_good {V : List (List UInt8)} {x : TType} (hs : tnd x ≤ 4000) (ho : tok x) (hv : ∀ v ∈ tvs x, v ∈ V) : (∀ t ∈ x.args, Good V t) ∧ tnds x.args + 1 = tnd x ∧ (∀ v ∈ tvss x.args, v ∈ tvs x) := by
  obtain ⟨k, n, ts⟩ := x
  simp only [tok] at ho
  refine ⟨fun t ht => ⟨fun v h => hv v ?_, ?_, tall_mem ho.2 t ht⟩, by simp only [tnd]; omega, fun v h => by simp [tvs, h]⟩
  · simp only [tvs, List.mem_append]
    exact .inr (tvss_mem.2 ⟨t, ht, h⟩)
  · have : tnd t ≤ tnds ts := tnd_mem ht
    simp only [tnd] at hs
    omega
theorem wsum {x y : TType} (hx : tnd x ≤ 1024000000000000000) (hy : tnd y ≤ 1024000000000000000) : IntKind.i64.wrap (tsz x + tsz y) = tnd x + tnd y := by
  rw [tsz_big x (by omega), tsz_big y (by omega), wrap_sm (by omega) (by omega)]

end Go.Proofs.Ytdofnoeiogjpjaa
set_option linter.unusedVariables false
set_option linter.unusedSimpArgs false
set_option linter.unusedSectionVars false
namespace Go.Proofs.Ytdofnoeiogjpjaa
open Go Go.Eng
attribute [local irreducible] V VO VQ VY Quiet QR SpecP SpecO MSpec Rng PostP PostO PostG
/-! ### unification, by hand: the two programs' runs, what bounds them left open -/
structure Ctl (β : Prop) (V : List (List UInt8)) (R : List TBinding → Prop) (P : TType → TType → Prop) : Prop where
  few : V.length ≤ 8
  good : ∀ {a b : TType}, P a b → Good V a ∧ Good V b
  big : ∀ {l : List TBinding} {a b : TType}, Inv V l → R l → P a b → tnd (apT l a) ≤ 1024000000000000000 ∧ tnd (apT l b) ≤ 1024000000000000000
  lim : ∀ {l : List TBinding} {a b : TType}, Inv V l → R l → P a b → β ∨ tnd (apT l a) + tnd (apT l b) ≤ 4000
  bx : ∀ {l : List TBinding} {a b x y : TType}, Inv V l → R l → P a b → apT l a = x → apT l b = y → x ≠ y → tnd x + tnd y ≤ 4000 → x.kind = 1 → x.name ∉ tvs y → R (bindL l x.name y)
  bv : ∀ {l : List TBinding} {a b x y : TType}, Inv V l → R l → P a b → apT l a = x → apT l b = y → x ≠ y → tnd x + tnd y ≤ 4000 → x.kind ≠ 1 → y.kind = 1 → y.name ∉ tvs x → R (bindL l y.name x)
  args : ∀ {l : List TBinding} {a b x y : TType}, Inv V l → R l → P a b → apT l a = x → apT l b = y → x ≠ y → tnd x + tnd y ≤ 4000 → x.kind ≠ 1 → y.kind ≠ 1 → x.kind = y.kind → x.name = y.name → x.args.length = y.args.length → ∀ (i : Nat) (c d : TType), x.args[i]? = some c → y.args[i]? = some d → P c d
section
variable {β : Prop} {V : List (List UInt8)} {R : List TBinding → Prop} {P : TType → TType → Prop}
theorem Inv.lenV {l : List TBinding} (h : Inv V l) : l.length ≤ V.length := by
  have := nodup_le h.nd h.dv
  simpa only [dom, List.length_map] using this
theorem sBound_eqC (l : List TBinding) (v : List UInt8) (y : TType) (hl : bok l) (hy : tok y) (h : l.length ≤ 8) : b_sBound l v y = some (bindL l v y) := by
  unfold b_sBound
  rw [sBound_l1_eq v y (fun b hb => by simp at hb; subst hb; exact hy) l [] hl (by simp; omega)]
  simp [bindL]
theorem bind_givesC {l : List TBinding} (hl : Inv V l) {a b : TType} {v : List UInt8} {y : TType} (hy : tnd y ≤ 4000) (hok : tok y) (hv : v ∈ V ∧ v ∉ dom l) (hyv : ∀ w ∈ tvs y, w ∈ V ∧ w ∉ dom l) (hn : v ∉ tvs y)
    (hab : apT [⟨v, y⟩] (apT l a) = apT [⟨v, y⟩] (apT l b)) : Inv V (bindL l v y) ∧ (bindL l v y = l ∨ l.length < (bindL l v y).length) ∧ (∀ t, apT (bindL l v y) (apT l t) = apT (bindL l v y) t) ∧ apT (bindL l v y) a = apT (bindL l v y) b := by
  refine ⟨hl.bind hv hyv hn hy hok, .inr (by simp [bindL]), fun t => ?_, ?_⟩
  · rw [apT_bind, apT_bind, hl.idem]
  · rw [apT_bind, apT_bind]; exact hab
def Prs (P : TType → TType → Prop) (as_ bs : List TType) : Prop := ∀ (i : Nat) (a b : TType), as_[i]? = some a → bs[i]? = some b → P a b
def DeepC (β : Prop) (V : List (List UInt8)) (R : List TBinding → Prop) (P : TType → TType → Prop) (n : Nat) : Prop := ∀ (l : List TBinding) (as_ bs : List TType), Inv V l → R l → as_.length = bs.length → Prs P as_ bs → (V.length - l.length) * 4001 + tnds (apTs l as_) < n →
  ∃ r p, m_iUnify n l as_ bs = some (resI r) ∧ m_sAll (2 * n) as_ bs l = some p ∧ ResS r p ∧ (∀ l', r = some l' → Post V l l' as_ bs ∧ R l') ∧ UR β l as_ bs r
theorem stepC (C : Ctl β V R P) (n : Nat) (hD : DeepC β V R P n) (l : List TBinding) (a b : TType) (xs bs : List TType) (k : Nat) (hl : Inv V l) (hR : R l) (hP : P a b) (hk : bs[k]? = some b)
    (hm : (V.length - l.length) * 4001 + tnd (apT l a) ≤ n ∨ (V.length - l.length) * 4001 + 4000 < n) :
    ∃ r p, (∀ l', r = some l' → b_iUnify_l1 (m_iUnify n) bs (a :: xs) k l = b_iUnify_l1 (m_iUnify n) bs xs (k + 1) l') ∧ (r = none → b_iUnify_l1 (m_iUnify n) bs (a :: xs) k l = some (false, [])) ∧
      m_sUnify (2 * n + 1) a b l = some p ∧ ResS r p ∧ (∀ l', r = some l' → (Inv V l' ∧ (l' = l ∨ l.length < l'.length) ∧ (∀ t, apT l' (apT l t) = apT l' t) ∧ apT l' a = apT l' b) ∧ R l') ∧
      ∀ (as_ bs' : List TType) (r2 : Option (List TBinding)), (r = none → r2 = none) → (∀ l', r = some l' → UR β l' as_ bs' r2) → UR β l (a :: as_) (b :: bs') r2 := by
  obtain ⟨ha, hb⟩ := C.good hP
  have hbk : bok l := hl.ok
  obtain ⟨hx4, hy4⟩ := C.big hl hR hP
  have hlim := C.lim hl hR hP
  have hxv := hl.vars ha
  have hyv := hl.vars hb
  have hxo := apT_tok hbk a ha.ok
  have hyo := apT_tok hbk b hb.ok
  have hll : l.length ≤ 8 := Nat.le_trans hl.lenV C.few
  have hix := hl.idem a
  have hiy := hl.idem b
  have hw := wsum hx4 hy4
  generalize hI : b_iUnify_l1 (m_iUnify n) bs (a :: xs) k l = rI
  rw [b_iUnify_l1.eq_2, at_nat, hk] at hI
  simp only [bnd, lt_] at hI
  rw [gd_eq ⟨hbk, ha.ok⟩, gd_eq ⟨hbk, hb.ok⟩] at hI
  generalize hS : m_sUnify (2 * n + 1) a b l = rS
  rw [m_sUnify.eq_2] at hS
  unfold b_sUnify at hS
  simp only [lt_] at hS
  rw [gd_eq ⟨hbk, ha.ok⟩, gd_eq ⟨hbk, hb.ok⟩] at hS
  subst hI
  subst hS
  rw [hw]
  have hxlk : ∀ v ∈ tvs (apT l a), v ∈ V ∧ v ∉ dom l := hxv
  generalize hX : apT l a = x at *
  generalize hY : apT l b = y at *
  cases ht : teq x y with
  | true =>
    have e := (teq_iff x y).1 ht
    simp only [cnd_true]
    refine ⟨some l, (l, true), fun l' h => (by cases h; rfl), fun h => (by cases h), rfl, rfl, fun l' h => ?_, fun as_ bs' r2 _ h2 => .eq (by rw [hX, hY, e]) (h2 l rfl)⟩
    cases h
    exact ⟨⟨hl, .inl rfl, hl.idem, by rw [hX, hY, e]⟩, hR⟩
  | false =>
    have hne : x ≠ y := fun e => by rw [(teq_iff x y).2 e] at ht; cases ht
    simp only [cnd_false]
    by_cases hs : tnd x + tnd y ≤ 4000
    · have hd : decide (((tnd x : Int) + (tnd y : Int)) > 4000) = false := decide_eq_false (by omega)
      rw [hd]
      simp only [cnd_false]
      by_cases kx : x.kind = 1
      · have e1 : (x.kind == 1) = true := by simp [kx]
        have e2 : (x.kind != 1) = false := by simp [kx]
        simp only [e1, e2, cnd_true, cnd_false]
        rw [iOcc (by omega), sOcc (by omega), sBound_eqC l x.name y hbk hyo hll]
        by_cases ho : x.name ∈ tvs y
        · have : decide (x.name ∈ tvs y) = true := decide_eq_true ho
          rw [this]
          simp only [cnd_true, bnd]
          exact ⟨none, _, fun l' h => (by cases h), fun _ => (by trivial), rfl, rfl, fun l' h => (by cases h), fun as_ bs' r2 h1 _ => by rw [h1 rfl]; exact .ox hX hY hne kx ho⟩
        · have : decide (x.name ∈ tvs y) = false := decide_eq_false ho
          rw [this]
          simp only [cnd_false, bnd]
          rw [l3_eq x y _ (fun c hc => by simp at hc; subst hc; exact hyo) l.length 0 l (by simp) (fun c hc => hbk c (by simpa using hc))]
          have e3 : List.take 0 l ++ List.map (fun b => (⟨b.var_, apT [⟨x.name, y⟩] b.type_⟩ : TBinding)) (List.drop 0 l) ++ [⟨x.name, y⟩] = bindL l x.name y := by simp [bindL]
          rw [gd_eq (by simp; omega), e3]
          refine ⟨some (bindL l x.name y), _, fun l' h => (by cases h; rfl), fun h => (by cases h), rfl, rfl, fun l' h => ?_, fun as_ bs' r2 _ h2 => .bx hX hY hne kx ho (h2 _ rfl)⟩
          cases h
          exact ⟨bind_givesC hl (by omega) hyo (hxlk _ (var_in kx)) hyv ho (by rw [hX, hY, ap_var kx rfl, ap_no ho]), C.bx hl hR hP hX hY hne hs kx ho⟩
      · have e1 : (x.kind == 1) = false := beq_false_of_ne kx
        have e2 : (x.kind != 1) = true := by simp [kx]
        simp only [e1, e2, cnd_true, cnd_false]
        by_cases ky : y.kind = 1
        · have e4 : (y.kind == 1) = true := by simp [ky]
          simp only [e4, cnd_true]
          rw [iOcc (by omega), sOcc (by omega), sBound_eqC l y.name x hbk hxo hll]
          by_cases ho : y.name ∈ tvs x
          · have : decide (y.name ∈ tvs x) = true := decide_eq_true ho
            rw [this]
            simp only [cnd_true, bnd]
            exact ⟨none, _, fun l' h => (by cases h), fun _ => (by trivial), rfl, rfl, fun l' h => (by cases h), fun as_ bs' r2 h1 _ => by rw [h1 rfl]; exact .ov hX hY hne kx ky ho⟩
          · have : decide (y.name ∈ tvs x) = false := decide_eq_false ho
            rw [this]
            simp only [cnd_false, bnd]
            rw [l2_eq x y _ (fun c hc => by simp at hc; subst hc; exact hxo) l.length 0 l (by simp) (fun c hc => hbk c (by simpa using hc))]
            have e3 : List.take 0 l ++ List.map (fun b => (⟨b.var_, apT [⟨y.name, x⟩] b.type_⟩ : TBinding)) (List.drop 0 l) ++ [⟨y.name, x⟩] = bindL l y.name x := by simp [bindL]
            rw [gd_eq (by simp; omega), e3]
            refine ⟨some (bindL l y.name x), _, fun l' h => (by cases h; rfl), fun h => (by cases h), rfl, rfl, fun l' h => ?_, fun as_ bs' r2 _ h2 => .bv hX hY hne kx ky ho (h2 _ rfl)⟩
            cases h
            exact ⟨bind_givesC hl (by omega) hxo (hyv _ (var_in ky)) hxv ho (by rw [hX, hY, ap_var ky rfl, ap_no ho]), C.bv hl hR hP hX hY hne hs kx ky ho⟩
        · have e4 : (y.kind == 1) = false := beq_false_of_ne ky
          simp only [e4, cnd_false]
          cases hc : (cnd (x.kind != y.kind) true (cnd (!(x.name == y.name)) true ((x.args.length : Int) != (y.args.length : Int)))) with
          | true =>
            simp only [cnd_true]
            have hcl : ¬ (x.kind = y.kind ∧ x.name = y.name ∧ x.args.length = y.args.length) := by
              rintro ⟨f1, f2, f3⟩
              rw [f1, f2, f3] at hc
              simp [cnd_false] at hc
            exact ⟨none, _, fun l' h => (by cases h), fun _ => (by trivial), rfl, rfl, fun l' h => (by cases h), fun as_ bs' r2 h1 _ => (by rw [h1 rfl]; exact .clash hX hY kx ky hcl)⟩
          | false =>
            simp only [cnd_false]
            have f1 : x.kind = y.kind := by
              cases h : (x.kind != y.kind) with
              | true => rw [h] at hc; simp [cnd_true] at hc
              | false => simpa using h
            have f2 : x.name = y.name := by
              rw [show (x.kind != y.kind) = false by simp [f1]] at hc
              simp only [cnd_false] at hc
              cases h : (x.name == y.name) with
              | true => exact eq_of_beq h
              | false => rw [h] at hc; simp [cnd_true] at hc
            have f3 : x.args.length = y.args.length := by
              rw [show (x.kind != y.kind) = false by simp [f1], show (x.name == y.name) = true by simp [f2]] at hc
              simp only [cnd_false, Bool.not_true] at hc
              have : ((x.args.length : Int)) = y.args.length := by simpa using hc
              omega
            obtain ⟨g1, g2, g3⟩ := args_good (V := V) (by omega) hxo (fun v hv => (hxv v hv).1)
            have hxa : apTs l x.args = x.args := apTs_out _ (fun v hv => (hxv v (g3 v hv)).2)
            obtain ⟨r, p, q1, q2, q3, q4, q5⟩ := hD l x.args y.args hl hR f3 (C.args hl hR hP hX hY hne hs kx ky f1 f2 f3) (by rw [hxa]; omega)
            rw [q1, q2]
            simp only [bnd]
            cases r with
            | none =>
              simp only [resI, Bool.not_false, cnd_true]
              exact ⟨none, _, fun l' h => (by cases h), fun _ => (by trivial), rfl, q3, fun l' h => (by cases h), fun as_ bs' r2 h1 _ => by rw [h1 rfl]; exact .deepN hX hY kx ky q5⟩
            | some l2 =>
              simp only [resI, Bool.not_true, cnd_false]
              refine ⟨some l2, _, fun l' h => (by cases h; rfl), fun h => (by cases h), rfl, ?_, fun l' h => ?_, fun as_ bs' r2 _ h2 => .deep hX hY kx ky q5 (h2 _ rfl)⟩
              · have : p = (l2, true) := q3
                subst this
                rfl
              · cases h
                obtain ⟨⟨w1, w2, w3, w4⟩, w5⟩ := q4 l2 rfl
                refine ⟨⟨w1, w2, w3, ?_⟩, w5⟩
                rw [← w3 a, ← w3 b, hX, hY]
                exact apTs_args (l := l) f1 f2 kx w4
    · have hd : decide (((tnd x : Int) + (tnd y : Int)) > 4000) = true := decide_eq_true (by omega)
      rw [hd]
      simp only [cnd_true]
      exact ⟨none, _, fun l' h => (by cases h), fun _ => (by trivial), rfl, rfl, fun l' h => (by cases h), fun as_ bs' r2 h1 _ => by rw [h1 rfl]; exact .big (hlim.resolve_right hs) (by rw [hX, hY]; exact hne) (by rw [hX, hY]; omega)⟩
/-- A row of pairs. -/
theorem rowC (C : Ctl β V R P) (n : Nat) (hD : DeepC β V R P n) (bs : List TType) (xs : List TType) : ∀ (k : Nat) (l : List TBinding), Inv V l → R l → Prs P xs (bs.drop k) → bs.length = k + xs.length → ((V.length - l.length) * 4001 + tnds (apTs l xs) ≤ n ∨ (V.length - l.length) * 4001 + 4000 < n) →
    ∃ r p, b_iUnify_l1 (m_iUnify n) bs xs k l = some (resI r) ∧ b_sAll_l1 (m_sUnify (2 * n + 1)) bs xs k l = some p ∧ ResS r p ∧ (∀ l', r = some l' → Post V l l' xs (bs.drop k) ∧ R l') ∧ UR β l xs (bs.drop k) r := by
  induction xs with
  | nil =>
    intro k l hl hR _ h _
    have hd : bs.drop k = [] := by rw [List.drop_of_length_le (by simp at h; omega)]
    refine ⟨some l, (l, true), rfl, rfl, rfl, fun l' h' => ?_, by rw [hd]; exact .nil⟩
    cases h'
    exact ⟨⟨hl, .inl rfl, hl.idem, by rw [hd]⟩, hR⟩
  | cons a xs ih =>
    intro k l hl hR hPs h hm
    simp only [List.length_cons] at h
    have hk : k < bs.length := by omega
    have hbk : bs[k]? = some bs[k] := List.getElem?_eq_getElem hk
    have hdr : bs.drop k = bs[k] :: bs.drop (k + 1) := List.drop_eq_getElem_cons hk
    rw [hdr] at hPs ⊢
    have ha : tnds (apTs l (a :: xs)) = tnd (apT l a) + tnds (apTs l xs) := rfl
    rw [ha] at hm
    obtain ⟨r, p, s1, s2, s3, s4, s5, s6⟩ := stepC C n hD l a bs[k] xs bs k hl hR (hPs 0 _ _ rfl rfl) hbk (by omega)
    have sL : b_sAll_l1 (m_sUnify (2 * n + 1)) bs (a :: xs) k l = cnd (!p.2) (some (l, false)) (b_sAll_l1 (m_sUnify (2 * n + 1)) bs xs (k + 1) p.1) := by
      rw [b_sAll_l1.eq_2, at_nat, hbk]
      simp only [bnd]
      rw [s3]
    cases r with
    | none =>
      refine ⟨none, (l, false), s2 rfl, ?_, rfl, fun l' h => (by cases h), s6 _ _ _ (fun _ => rfl) (fun l' h => (by cases h))⟩
      rw [sL]
      have : p.2 = false := s4
      rw [this]
      rfl
    | some l1 =>
      have hp : p = (l1, true) := s4
      subst hp
      obtain ⟨⟨w1, w2, w3, w4⟩, w5⟩ := s5 l1 rfl
      have hl1 := w1.lenV
      have hm2 : (V.length - l1.length) * 4001 + tnds (apTs l1 xs) ≤ n ∨ (V.length - l1.length) * 4001 + 4000 < n := by
        rcases w2 with rfl | w2
        · omega
        · right
          have : (V.length - l1.length) * 4001 + 4001 ≤ (V.length - l.length) * 4001 := by omega
          omega
      obtain ⟨r2, p2, z1, z2, z3, z4, z5⟩ := ih (k + 1) l1 w1 w5 (fun i c d hc hd => hPs (i + 1) c d (by simpa using hc) hd) (by omega) hm2
      refine ⟨r2, p2, by rw [s1 l1 rfl]; exact z1, by rw [sL]; exact z2, z3, fun l' h' => ?_, s6 _ _ _ (fun h => (by cases h)) (fun l' h => (by cases h; exact z5))⟩
      obtain ⟨⟨y1, y2, y3, y4⟩, y5⟩ := z4 l' h'
      refine ⟨⟨y1, ?_, fun t => ?_, ?_⟩, y5⟩
      · rcases w2 with rfl | w2
        · exact y2
        · right
          rcases y2 with rfl | y2 <;> omega
      · rw [← y3 (apT l t), w3, y3]
      · simp only [apTs]
        rw [y4, ← y3 a, ← y3 bs[k], w4]
theorem deepC (C : Ctl β V R P) : ∀ n, DeepC β V R P n
  | 0 => fun l as_ bs _ _ _ _ h => by omega
  | n + 1 => fun l as_ bs hl hR hlen hP hm => by
    obtain ⟨r, p, h1, h2, h3, h4, h5⟩ := rowC C n (deepC C n) bs as_ 0 l hl hR (by simpa using hP) (by omega) (.inl (by omega))
    rw [List.drop_zero] at h4 h5
    refine ⟨r, p, ?_, ?_, h3, h4, h5⟩
    · rw [m_iUnify.eq_2]
      exact h1
    · rw [show 2 * (n + 1) = (2 * n + 1) + 1 by omega, m_sAll.eq_2]
      exact h2
/-- Both programs, started with one pair. -/
theorem pairC (C : Ctl β V R P) (h0 : R []) {a b : TType} (hP : P a b) : ∃ r p, m_iUnify 50000 [] [a] [b] = some (resI r) ∧ m_sAll 100000 [a] [b] [] = some p ∧ ResS r p ∧ (∀ l', r = some l' → (Inv V l' ∧ apT l' a = apT l' b) ∧ R l') ∧ UR β [] [a] [b] r := by
  obtain ⟨ha, hb⟩ := C.good hP
  have hout : ∀ t : TType, apT [] t = t := fun t => apT_out t (fun v _ hd => by simp [dom] at hd)
  have hf := C.few
  obtain ⟨r, p, q1, q2, q3, q4, q5⟩ := deepC C 50000 [] [a] [b] ⟨by simp [dom], by simp [dom], by simp, by simp, fun b hb => by simp at hb⟩ h0 rfl (fun i c d hc hd => by
    cases i with
    | zero => simp at hc hd; subst hc; subst hd; exact hP
    | succ i => simp at hc) (by
      simp only [apTs, hout, tnds, List.length_nil]
      have := ha.sz
      omega)
  refine ⟨r, p, q1, q2, q3, fun l' h => ?_, q5⟩
  obtain ⟨⟨w1, _, _, w4⟩, w5⟩ := q4 l' h
  exact ⟨⟨w1, by simpa [apTs] using w4⟩, w5⟩
end

end Go.Proofs.Ytdofnoeiogjpjaa
