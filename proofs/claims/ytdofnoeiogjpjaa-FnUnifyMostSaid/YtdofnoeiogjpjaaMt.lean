/- Mt. Written by a program of mine (aw.py). -/
import Derived.Test.YtdofnoeiogjpjaaFacts
import Derived.Test.YtdofnoeiogjpjaaUc3
import Derived.Test.YtdofnoeiogjpjaaUm2
set_option linter.unusedVariables false
set_option linter.unusedSimpArgs false
set_option linter.unusedSectionVars false
namespace Go.Proofs.Ytdofnoeiogjpjaa
open Go Go.Eng
attribute [local irreducible] V VO VQ VY Quiet QR SpecP SpecO MSpec Rng PostP PostO PostG
/-! ### matching, by hand -/
mutual
def mtT : TType → TType → List TBinding → Option (List TBinding)
  | ⟨k, n, ps⟩, t, l => cnd (k == 1) (cnd (lkp n l).2 (cnd (teq (lkp n l).1 t) (some l) none) (some (l ++ [⟨n, t⟩])))
      (cnd (cnd (k != t.kind) true (cnd (!(n == t.name)) true ((ps.length : Int) != (t.args.length : Int)))) none (mtTs ps t.args l))
def mtTs : List TType → List TType → List TBinding → Option (List TBinding)
  | [], _, l => some l
  | _ :: _, [], _ => none
  | p :: ps, t :: ts, l => bnd (mtT p t l) fun l' => mtTs ps ts l'
end
/-- What a program answers where r comes out. -/
def Agr : Option (List TBinding) → Bool × List TBinding → Prop
  | none, q => q.1 = false
  | some l, q => q = (true, l)
mutual
theorem mtT_rng {Q : TType → Prop} (hQ : ∀ x, Q x → ∀ y ∈ x.args, Q y) : ∀ (p t : TType) (l l' : List TBinding), Q t → (∀ b ∈ l, Q b.type_) → mtT p t l = some l' → (∀ b ∈ l', Q b.type_) ∧ l'.length ≤ l.length + tnd p
  | ⟨k, n, ps⟩, t, l, l', ht, hl, h => by
    simp only [mtT] at h
    simp only [tnd]
    cases hk : (k == 1) with
    | true =>
      simp only [hk, cnd_true] at h
      cases hb : (lkp n l).2 with
      | true =>
        simp only [hb, cnd_true] at h
        cases he : teq (lkp n l).1 t with
        | true => simp only [he, cnd_true, Option.some.injEq] at h; subst h; exact ⟨hl, by omega⟩
        | false => simp [he, cnd_false] at h
      | false =>
        simp only [hb, cnd_false, Option.some.injEq] at h
        subst h
        refine ⟨fun b hb' => ?_, by simp only [List.length_append, List.length_cons, List.length_nil]; omega⟩
        rcases List.mem_append.1 hb' with hb' | hb'
        · exact hl b hb'
        · simp only [List.mem_singleton] at hb'
          subst hb'
          exact ht
    | false =>
      simp only [hk, cnd_false] at h
      cases hc : (cnd (k != t.kind) true (cnd (!(n == t.name)) true ((ps.length : Int) != (t.args.length : Int)))) with
      | true => simp [hc, cnd_true] at h
      | false =>
        simp only [hc, cnd_false] at h
        have := mtTs_rng hQ ps t.args l l' (hQ t ht) hl h
        exact ⟨this.1, by omega⟩
theorem mtTs_rng {Q : TType → Prop} (hQ : ∀ x, Q x → ∀ y ∈ x.args, Q y) : ∀ (ps ts : List TType) (l l' : List TBinding), (∀ t ∈ ts, Q t) → (∀ b ∈ l, Q b.type_) → mtTs ps ts l = some l' → (∀ b ∈ l', Q b.type_) ∧ l'.length ≤ l.length + tnds ps
  | [], _, l, l', _, hl, h => by simp only [mtTs, Option.some.injEq] at h; subst h; exact ⟨hl, by simp⟩
  | _ :: _, [], _, _, _, _, h => by simp [mtTs] at h
  | p :: ps, t :: ts, l, l', ht, hl, h => by
    simp only [mtTs] at h
    obtain ⟨l1, h1, h2⟩ := bnd_s h
    obtain ⟨q1, q2⟩ := mtT_rng hQ p t l l1 (ht t (by simp)) hl h1
    obtain ⟨q3, q4⟩ := mtTs_rng hQ ps ts l1 l' (fun t h => ht t (by simp [h])) q1 h2
    simp only [tnds]
    exact ⟨q3, by omega⟩
end
theorem lkp_app (v : List UInt8) (c : TBinding) : ∀ (l : List TBinding), lkp v (l ++ [c]) = cnd (lkp v l).2 (lkp v l) (lkp v [c])
  | [] => by simp [lkp, cnd_false]
  | b :: l => by
    have h := lkp_app v c l
    simp only [List.cons_append, lkp] at h ⊢
    cases b.var_ == v with
    | true => simp [cnd_true]
    | false => simpa [cnd_false] using h
theorem lkp_hit (v : List UInt8) (t : TType) : lkp v [⟨v, t⟩] = (t, true) := by simp [lkp, cnd_true]
theorem lkp_mis {v w : List UInt8} (t : TType) (h : w ≠ v) : (lkp v [⟨w, t⟩]).2 = false := by simp [lkp, beq_false_of_ne h, cnd_false]
/-- l' tells what l tells. -/
def Ext (l l' : List TBinding) : Prop := ∀ v, (lkp v l).2 = true → lkp v l' = lkp v l
mutual
theorem ap_ext {l l' : List TBinding} (h : Ext l l') : ∀ (p : TType), tna p → (∀ v ∈ tvs p, (lkp v l).2 = true) → apT l' p = apT l p
  | ⟨k, n, ps⟩, hp, hv => by
    simp only [tna] at hp
    by_cases hk : k = 1
    · subst hk
      have h1 := hv n (by simp [tvs])
      rw [apT_var1 l n ps h1, apT_var1 l' n ps (by rw [h n h1]; exact h1), h n h1]
    · rw [apT_con _ _ _ _ hk, apT_con _ _ _ _ hk, aps_ext h ps hp.2 (fun v hv' => hv v (by simp [tvs, hk, hv']))]
theorem aps_ext {l l' : List TBinding} (h : Ext l l') : ∀ (ps : List TType), tnas ps → (∀ v ∈ tvss ps, (lkp v l).2 = true) → apTs l' ps = apTs l ps
  | [], _, _ => rfl
  | p :: ps, hp, hv => by
    simp only [tnas] at hp
    simp only [apTs]
    rw [ap_ext h p hp.1 (fun v hv' => hv v (by simp [tvss, hv'])), aps_ext h ps hp.2 (fun v hv' => hv v (by simp [tvss, hv']))]
end
mutual
theorem mtT_sound : ∀ (p t : TType) (l l' : List TBinding), tna p → mtT p t l = some l' → Ext l l' ∧ (∀ v ∈ tvs p, (lkp v l').2 = true) ∧ apT l' p = t
  | ⟨k, n, ps⟩, t, l, l', hp, h => by
    simp only [tna] at hp
    simp only [mtT] at h
    by_cases hk : k = 1
    · subst hk
      have h0 := hp.1 rfl
      subst h0
      simp only [beq_self_eq_true, cnd_true] at h
      cases hb : (lkp n l).2 with
      | true =>
        simp only [hb, cnd_true] at h
        cases he : teq (lkp n l).1 t with
        | true =>
          simp only [he, cnd_true, Option.some.injEq] at h
          subst h
          have := (teq_iff _ _).1 he
          exact ⟨fun _ _ => rfl, fun v hv => by simp [tvs, tvss] at hv; subst hv; exact hb, by rw [apT_var1 _ _ _ hb, this]⟩
        | false => simp [he, cnd_false] at h
      | false =>
        simp only [hb, cnd_false, Option.some.injEq] at h
        subst h
        have hx : lkp n (l ++ [⟨n, t⟩]) = (t, true) := by rw [lkp_app, hb, cnd_false, lkp_hit]
        exact ⟨fun v hv => by rw [lkp_app, hv, cnd_true], fun v hv => by simp [tvs, tvss] at hv; subst hv; rw [hx], by rw [apT_var1 _ _ _ (by rw [hx]), hx]⟩
    · simp only [beq_false_of_ne hk, cnd_false] at h
      obtain ⟨k', n', ts⟩ := t
      cases hc : (cnd (k != k') true (cnd (!(n == n')) true ((ps.length : Int) != (ts.length : Int)))) with
      | true => simp [hc, cnd_true] at h
      | false =>
        simp only [hc, cnd_false] at h
        have f1 : k = k' := by
          cases h : (k != k') with
          | true => rw [h] at hc; simp [cnd_true] at hc
          | false => simpa using h
        have f2 : n = n' := by
          rw [show (k != k') = false by simp [f1]] at hc
          simp only [cnd_false] at hc
          cases h : (n == n') with
          | true => exact eq_of_beq h
          | false => rw [h] at hc; simp [cnd_true] at hc
        have f3 : ps.length = ts.length := by
          rw [show (k != k') = false by simp [f1], show (n == n') = true by simp [f2]] at hc
          simp only [cnd_false, Bool.not_true] at hc
          have : ((ps.length : Int)) = ts.length := by simpa using hc
          omega
        subst f1; subst f2
        obtain ⟨q1, q2, q3⟩ := mtTs_sound ps ts l l' hp.2 f3 h
        exact ⟨q1, fun v hv => q2 v (by simpa [tvs, hk] using hv), by rw [apT_con _ _ _ _ hk, q3]⟩
theorem mtTs_sound : ∀ (ps ts : List TType) (l l' : List TBinding), tnas ps → ps.length = ts.length → mtTs ps ts l = some l' → Ext l l' ∧ (∀ v ∈ tvss ps, (lkp v l').2 = true) ∧ apTs l' ps = ts
  | [], ts, l, l', _, hlen, h => by
    simp only [mtTs, Option.some.injEq] at h
    subst h
    have : ts = [] := List.length_eq_zero_iff.1 (by simpa using hlen.symm)
    subst this
    exact ⟨fun _ _ => rfl, fun v hv => by simp [tvss] at hv, rfl⟩
  | _ :: _, [], _, _, _, _, h => by simp [mtTs] at h
  | p :: ps, t :: ts, l, l', hp, hlen, h => by
    simp only [tnas] at hp
    simp only [mtTs] at h
    obtain ⟨l1, h1, h2⟩ := bnd_s h
    obtain ⟨q1, q2, q3⟩ := mtT_sound p t l l1 hp.1 h1
    obtain ⟨q4, q5, q6⟩ := mtTs_sound ps ts l1 l' hp.2 (by simpa using hlen) h2
    refine ⟨fun v hv => ?_, fun v hv => ?_, ?_⟩
    · rw [q4 v (by rw [q1 v hv]; exact hv), q1 v hv]
    · simp only [tvss, List.mem_append] at hv
      rcases hv with hv | hv
      · rw [q4 v (q2 v hv)]; exact q2 v hv
      · exact q5 v hv
    · simp only [apTs]
      rw [q6, ap_ext q4 p hp.1 q2, q3]
end
/-- What l tells, s tells too. -/
def Sub (l s : List TBinding) : Prop := ∀ v, (lkp v l).2 = true → (lkp v l).1 = apT s ⟨1, v, []⟩
mutual
theorem mtT_complete {s : List TBinding} : ∀ (p t : TType) (l : List TBinding), tna p → apT s p = t → Sub l s → ∃ l', mtT p t l = some l' ∧ Sub l' s
  | ⟨k, n, ps⟩, t, l, hp, h, hl => by
    simp only [tna] at hp
    simp only [mtT]
    by_cases hk : k = 1
    · subst hk
      have h0 := hp.1 rfl
      subst h0
      simp only [beq_self_eq_true, cnd_true]
      cases hb : (lkp n l).2 with
      | true =>
        have := hl n hb
        rw [h] at this
        rw [this, (teq_iff t t).2 rfl]
        exact ⟨l, rfl, hl⟩
      | false =>
        refine ⟨_, rfl, fun v hv => ?_⟩
        rw [lkp_app] at hv ⊢
        cases hv2 : (lkp v l).2 with
        | true => rw [cnd_true]; exact hl v hv2
        | false =>
          rw [hv2, cnd_false] at hv
          by_cases e : n = v
          · subst e
            rw [cnd_false, lkp_hit, h]
          · rw [lkp_mis t e] at hv
            cases hv
    · rw [apT_con _ _ _ _ hk] at h
      subst h
      simp only [beq_false_of_ne hk, cnd_false, apTs_len, bne_self_eq_false, beq_self_eq_true, Bool.not_true]
      exact mtTs_complete ps l hp.2 hl
theorem mtTs_complete {s : List TBinding} : ∀ (ps : List TType) (l : List TBinding), tnas ps → Sub l s → ∃ l', mtTs ps (apTs s ps) l = some l' ∧ Sub l' s
  | [], l, _, hl => ⟨l, rfl, hl⟩
  | p :: ps, l, hp, hl => by
    simp only [tnas] at hp
    obtain ⟨l1, h1, h2⟩ := mtT_complete p (apT s p) l hp.1 rfl hl
    obtain ⟨l2, h3, h4⟩ := mtTs_complete ps l1 hp.2 h2
    refine ⟨l2, ?_, h4⟩
    simp only [apTs, mtTs]
    rw [bnd_eq h1, h3]
end
theorem Sub.nil (s : List TBinding) : Sub [] s := fun v h => by simp [lkp] at h
theorem rtok : ∀ x, tok x → ∀ y ∈ x.args, tok y := fun x hx y hy => by
  obtain ⟨k, n, ts⟩ := x
  simp only [tok] at hx
  exact tall_iff.1 hx.2 y hy
/-! ### matching: the program -/
theorem iMatch_row {n : Nat} (ih : ∀ (p t : TType) (l : List TBinding), 2 * tnd p ≤ n → bok l → tok t → l.length + tnd p ≤ 4000000 → ∃ q, m_iMatch n l p t = some q ∧ Agr (mtT p t l) q) (all : List TType) (hall : ∀ t ∈ all, tok t) :
    ∀ (xs : List TType) (k : Nat) (l : List TBinding), 2 * tnds xs ≤ n → bok l → all.length = k + xs.length → l.length + tnds xs ≤ 4000000 → ∃ q, b_iMatchAll_l1 (m_iMatch n) all xs k l = some q ∧ Agr (mtTs xs (all.drop k) l) q
  | [], k, l, _, _, h, _ => ⟨_, rfl, rfl⟩
  | x :: xs, k, l, hn, hb, h, hl => by
    simp only [List.length_cons] at h
    simp only [tnds] at hn hl
    have hk : k < all.length := by omega
    have hx : all[k]? = some all[k] := List.getElem?_eq_getElem hk
    obtain ⟨q, e1, e2⟩ := ih x all[k] l (by omega) hb (hall _ (List.getElem_mem hk)) (by omega)
    rw [b_iMatchAll_l1.eq_2, at_nat, hx, List.drop_eq_getElem_cons hk]
    simp only [bnd, e1, mtTs]
    cases hm : mtT x all[k] l with
    | none =>
      rw [hm] at e2
      have e3 : q.1 = false := e2
      simp only [e3, Bool.not_false, cnd_true]
      exact ⟨_, rfl, rfl⟩
    | some l1 =>
      rw [hm] at e2
      have e3 : q = (true, l1) := e2
      subst e3
      simp only [Bool.not_true, cnd_false]
      obtain ⟨r1, r2⟩ := mtT_rng rtok x all[k] l l1 (hall _ (List.getElem_mem hk)) hb hm
      exact iMatch_row ih all hall xs (k + 1) l1 (by omega) r1 (by omega) (by omega)
theorem iMatch_eq : ∀ (n : Nat), (∀ (p t : TType) (l : List TBinding), 2 * tnd p ≤ n → bok l → tok t → l.length + tnd p ≤ 4000000 → ∃ q, m_iMatch n l p t = some q ∧ Agr (mtT p t l) q) ∧
    (∀ (ps ts : List TType) (l : List TBinding), 2 * tnds ps + 1 ≤ n → bok l → (∀ t ∈ ts, tok t) → l.length + tnds ps ≤ 4000000 → ∃ q, m_iMatchAll n l ps ts = some q ∧ Agr (cnd ((ps.length : Int) != (ts.length : Int)) none (mtTs ps ts l)) q)
  | 0 => ⟨fun p t l h => by have := tnd_pos p; omega, fun ps ts l h => by omega⟩
  | n + 1 => by
    obtain ⟨ih1, ih2⟩ := iMatch_eq n
    refine ⟨fun p t l hn hb ht hl => ?_, fun ps ts l hn hb ht hl => ?_⟩
    · obtain ⟨k, nm, ps⟩ := p
      simp only [tnd] at hn hl
      rw [m_iMatch.eq_2]
      unfold b_iMatch
      simp only [lt_, idT, mtT]
      cases hk : (k == 1) with
      | true =>
        simp only [cnd_true]
        have hlk : b_iLookup l nm = some (lkp nm l) := iLookup_l1_eq nm l hb
        rw [bnd_eq hlk]
        cases (lkp nm l).2 with
        | true =>
          simp only [cnd_true]
          refine ⟨_, rfl, ?_⟩
          cases teq (lkp nm l).1 t <;> rfl
        | false =>
          simp only [cnd_false]
          rw [gd_eq ht, gd_eq (by simp; omega)]
          exact ⟨_, rfl, rfl⟩
      | false =>
        simp only [cnd_false]
        obtain ⟨q, e1, e2⟩ := ih2 ps t.args l (by omega) hb (rtok t ht) (by omega)
        cases h1 : (k != t.kind) with
        | true => simp only [cnd_true]; exact ⟨_, rfl, rfl⟩
        | false =>
          simp only [cnd_false]
          cases h2 : (!(nm == t.name)) with
          | true => simp only [cnd_true]; exact ⟨_, rfl, rfl⟩
          | false =>
            simp only [cnd_false]
            rw [bnd_eq e1]
            exact ⟨_, rfl, e2⟩
    · rw [m_iMatchAll.eq_2]
      unfold b_iMatchAll
      cases h1 : ((ps.length : Int) != (ts.length : Int)) with
      | true => simp only [cnd_true]; exact ⟨_, rfl, rfl⟩
      | false =>
        simp only [cnd_false]
        have hlen : ts.length = 0 + ps.length := by
          have : ((ps.length : Int)) = ts.length := by simpa using h1
          omega
        have := iMatch_row ih1 ts ht ps 0 l (by omega) hb hlen (by omega)
        rwa [List.drop_zero] at this
theorem iMatchF_eq (p t : TType) (hp : tnd p ≤ 40000) (ht : tok t) : ∃ q, b_iMatchF p t = some (q.2, q.1) ∧ Agr (mtT p t []) q := by
  obtain ⟨q, e1, e2⟩ := (iMatch_eq 100000).2 [p] [t] [] (by simp only [tnds]; omega) (fun b hb => by simp at hb) (by simpa using ht) (by simp [tnds]; omega)
  refine ⟨q, ?_, ?_⟩
  · unfold b_iMatchF iMatchAllNil
    rw [e1]
    rfl
  · have h0 : ((([p] : List TType).length : Int) != (([t] : List TType).length : Int)) = false := by simp
    rw [h0, cnd_false] at e2
    simp only [mtTs] at e2
    cases hm : mtT p t [] with
    | none => rw [hm] at e2; exact e2
    | some l => rw [hm] at e2; exact e2
theorem Agr.fst {r : Option (List TBinding)} {q : Bool × List TBinding} (h : Agr r q) : q.1 = r.isSome := by
  cases r with
  | none => exact h
  | some l =>
    have h : q = (true, l) := h
    rw [h]; rfl
theorem iMatches_eq (p t : TType) (hp : tnd p ≤ 40000) (ht : tok t) : b_iMatches p t = some (mtT p t []).isSome := by
  obtain ⟨q, e1, e2⟩ := iMatchF_eq p t hp ht
  unfold b_iMatches
  rw [bnd_eq e1, ← e2.fst]
/-! ### matching: the reference -/
theorem sMatch_row {n : Nat} (ih : ∀ (p t : TType) (l : List TBinding), 2 * tnd p ≤ n → bok l → tok t → l.length + tnd p ≤ 4000000 → ∃ q, m_sMatch n p t l = some q ∧ Agr (mtT p t l) q) (all : List TType) (hall : ∀ t ∈ all, tok t) :
    ∀ (xs : List TType) (k : Nat) (l : List TBinding), 2 * tnds xs ≤ n → bok l → all.length = k + xs.length → l.length + tnds xs ≤ 4000000 → ∃ q, b_s7All_l1 (m_sMatch n) all xs k l = some q ∧ Agr (mtTs xs (all.drop k) l) q
  | [], k, l, _, _, h, _ => ⟨_, rfl, rfl⟩
  | x :: xs, k, l, hn, hb, h, hl => by
    simp only [List.length_cons] at h
    simp only [tnds] at hn hl
    have hk : k < all.length := by omega
    have hx : all[k]? = some all[k] := List.getElem?_eq_getElem hk
    obtain ⟨q, e1, e2⟩ := ih x all[k] l (by omega) hb (hall _ (List.getElem_mem hk)) (by omega)
    rw [b_s7All_l1.eq_2, at_nat, hx, List.drop_eq_getElem_cons hk]
    simp only [bnd, e1, mtTs]
    cases hm : mtT x all[k] l with
    | none =>
      rw [hm] at e2
      have e3 : q.1 = false := e2
      simp only [e3, cnd_false]
      exact ⟨_, rfl, rfl⟩
    | some l1 =>
      rw [hm] at e2
      have e3 : q = (true, l1) := e2
      subst e3
      simp only [cnd_true]
      obtain ⟨r1, r2⟩ := mtT_rng rtok x all[k] l l1 (hall _ (List.getElem_mem hk)) hb hm
      exact sMatch_row ih all hall xs (k + 1) l1 (by omega) r1 (by omega) (by omega)
theorem sMatch_eq : ∀ (n : Nat), (∀ (p t : TType) (l : List TBinding), 2 * tnd p ≤ n → bok l → tok t → l.length + tnd p ≤ 4000000 → ∃ q, m_sMatch n p t l = some q ∧ Agr (mtT p t l) q) ∧
    (∀ (ps ts : List TType) (l : List TBinding), 2 * tnds ps + 1 ≤ n → bok l → (∀ t ∈ ts, tok t) → ts.length = ps.length → l.length + tnds ps ≤ 4000000 → ∃ q, m_s7All n ps ts l = some q ∧ Agr (mtTs ps ts l) q)
  | 0 => ⟨fun p t l h => by have := tnd_pos p; omega, fun ps ts l h => by omega⟩
  | n + 1 => by
    obtain ⟨ih1, ih2⟩ := sMatch_eq n
    refine ⟨fun p t l hn hb ht hl => ?_, fun ps ts l hn hb ht hlen hl => ?_⟩
    · obtain ⟨k, nm, ps⟩ := p
      simp only [tnd] at hn hl
      rw [m_sMatch.eq_2]
      unfold b_sMatch
      simp only [lt_, idT, mtT]
      cases hk : (k == 1) with
      | true =>
        simp only [cnd_true]
        have hlk : b_sLookup l nm = some (lkp nm l) := sLookup_l1_eq nm l hb
        rw [bnd_eq hlk]
        cases (lkp nm l).2 with
        | true =>
          simp only [cnd_true]
          refine ⟨_, rfl, ?_⟩
          cases teq (lkp nm l).1 t <;> rfl
        | false =>
          simp only [cnd_false]
          rw [gd_eq ht, gd_eq (by simp; omega)]
          exact ⟨_, rfl, rfl⟩
      | false =>
        simp only [cnd_false]
        cases h1 : (cnd (k != t.kind) true (cnd (!(nm == t.name)) true ((ps.length : Int) != (t.args.length : Int)))) with
        | true => simp only [cnd_true]; exact ⟨_, rfl, rfl⟩
        | false =>
          simp only [cnd_false]
          have hlen : t.args.length = ps.length := by
            cases h2 : (k != t.kind) with
            | true => rw [h2] at h1; simp [cnd_true] at h1
            | false =>
              rw [h2] at h1
              simp only [cnd_false] at h1
              cases h3 : (!(nm == t.name)) with
              | true => rw [h3] at h1; simp [cnd_true] at h1
              | false =>
                rw [h3] at h1
                simp only [cnd_false] at h1
                have : ((ps.length : Int)) = t.args.length := by simpa using h1
                omega
          obtain ⟨q, e1, e2⟩ := ih2 ps t.args l (by omega) hb (rtok t ht) hlen (by omega)
          rw [bnd_eq e1]
          cases hm : mtTs ps t.args l with
          | none =>
            rw [hm] at e2
            have e3 : q.1 = false := e2
            simp only [e3, cnd_false]
            exact ⟨_, rfl, rfl⟩
          | some l1 =>
            rw [hm] at e2
            have e3 : q = (true, l1) := e2
            subst e3
            exact ⟨_, rfl, rfl⟩
    · rw [m_s7All.eq_2]
      unfold b_s7All
      have := sMatch_row ih1 ts ht ps 0 l (by omega) hb (by omega) (by omega)
      rwa [List.drop_zero] at this
theorem sMatches_eq (p t : TType) (hp : tnd p ≤ 40000) (ht : tok t) : b_sMatches p t = some (mtT p t []).isSome := by
  obtain ⟨q, e1, e2⟩ := (sMatch_eq 100000).2 [p] [t] [] (by simp only [tnds]; omega) (fun b hb => by simp at hb) (by simpa using ht) rfl (by simp [tnds]; omega)
  have h0 : ((([p] : List TType).length : Int) != (([t] : List TType).length : Int)) = false := by simp
  unfold b_sMatches b_sMatchF b_sMatchAll
  rw [h0, cnd_false, bnd_eq e1]
  simp only [mtTs] at e2
  cases hm : mtT p t [] with
  | none =>
    rw [hm] at e2
    have e3 : q.1 = false := e2
    rw [e3]
    rfl
  | some l =>
    rw [hm] at e2
    have e3 : q = (true, l) := e2
    subst e3
    rfl

end Go.Proofs.Ytdofnoeiogjpjaa
