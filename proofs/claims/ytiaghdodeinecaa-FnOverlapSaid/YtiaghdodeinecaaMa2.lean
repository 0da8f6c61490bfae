/- Ud3. Written by a program of mine (aw.py). -/
import Derived.Test.YtiaghdodeinecaaEng43
import Derived.Test.YtiaghdodeinecaaTh2
import Derived.Test.YtiaghdodeinecaaUc1
set_option linter.unusedVariables false
set_option linter.unusedSimpArgs false
set_option linter.unusedSectionVars false
namespace Go.Proofs.Ytiaghdodeinecaa
open Go Go.Eng
attribute [local irreducible] V VO VQ VY Quiet QR SpecP SpecO Rng PostP PostO PostG
/-! ### unification, by hand: the two programs' runs, what bounds them left open -/
/-- What is asked of a row of pairs: P of the first, and of the others once those before are done. -/
def PR (V : List (List UInt8)) (R : List TBinding → Prop) (P : List TBinding → TType → TType → Prop) : List TBinding → List TType → List TType → Prop
  | _, [], _ => True
  | _, _ :: _, [] => True
  | l, a :: as_, b :: bs => P l a b ∧ ∀ l', Inv V l' → R l' → (∀ t, apT l' (apT l t) = apT l' t) → PR V R P l' as_ bs
structure Ctl (β : Prop) (V : List (List UInt8)) (R : List TBinding → Prop) (P : List TBinding → TType → TType → Prop) : Prop where
  few : V.length ≤ 8
  good : ∀ {l : List TBinding} {a b : TType}, P l a b → Good V a ∧ Good V b
  big : ∀ {l : List TBinding} {a b : TType}, Inv V l → R l → P l a b → tnd (apT l a) ≤ 1024000000000000000 ∧ tnd (apT l b) ≤ 1024000000000000000
  lim : ∀ {l : List TBinding} {a b : TType}, Inv V l → R l → P l a b → β ∨ tnd (apT l a) + tnd (apT l b) ≤ 4000
  bx : ∀ {l : List TBinding} {a b x y : TType}, Inv V l → R l → P l a b → apT l a = x → apT l b = y → x ≠ y → tnd x + tnd y ≤ 4000 → x.kind = 1 → x.name ∉ tvs y → R (bindL l x.name y)
  bv : ∀ {l : List TBinding} {a b x y : TType}, Inv V l → R l → P l a b → apT l a = x → apT l b = y → x ≠ y → tnd x + tnd y ≤ 4000 → x.kind ≠ 1 → y.kind = 1 → y.name ∉ tvs x → R (bindL l y.name x)
  args : ∀ {l : List TBinding} {a b x y : TType}, Inv V l → R l → P l a b → apT l a = x → apT l b = y → x ≠ y → tnd x + tnd y ≤ 4000 → x.kind ≠ 1 → y.kind ≠ 1 → x.kind = y.kind → x.name = y.name → x.args.length = y.args.length → PR V R P l x.args y.args
section
variable {β : Prop} {V : List (List UInt8)} {R : List TBinding → Prop} {P : List TBinding → TType → TType → Prop}
/-- Nothing stops a run. -/
def Suc (V : List (List UInt8)) (R : List TBinding → Prop) (P : List TBinding → TType → TType → Prop) : Prop := ∀ (l : List TBinding) (a b x y : TType), Inv V l → R l → P l a b → apT l a = x → apT l b = y → x ≠ y →
  tnd x + tnd y ≤ 4000 ∧ (x.kind = 1 → x.name ∉ tvs y) ∧ (x.kind ≠ 1 → y.kind = 1 → y.name ∉ tvs x) ∧ (x.kind ≠ 1 → y.kind ≠ 1 → x.kind = y.kind ∧ x.name = y.name ∧ x.args.length = y.args.length)
theorem Inv.lenV {l : List TBinding} (h : Inv V l) : l.length ≤ V.length := by
  have := nodup_le h.nd h.dv
  simpa only [dom, List.length_map] using this
theorem sBound_eqC (l : List TBinding) (v : List UInt8) (y : TType) (hl : bok l) (hy : tok y) (h : l.length ≤ 8) : b_sBound l v y = some (bindL l v y) := by
  unfold b_sBound
  rw [sBound_l1_eq v y (fun b hb => by simp at hb; subst hb; exact hy) l [] hl (by simp; omega)]
  simp [bindL]
theorem bind_givesC {l : List TBinding} (hl : Inv V l) {a b : TType} {v : List UInt8} {y : TType} (hy : tnd y ≤ 4000) (hok : tok y) (hv : v ∈ V ∧ v ∉ dom l) (hyv : ∀ w ∈ tvs y, w ∈ V ∧ w ∉ dom l) (hn : v ∉ tvs y)
    (hab : apT [⟨v, y⟩] (apT l a) = apT [⟨v, y⟩] (apT l b)) : Inv V (bindL l v y) ∧ (bindL l v y = l ∨ l.length < (bindL l v y).length) ∧ (∀ t, apT (bindL l v y) (apT l t) = apT (bindL l v y) t) ∧ apT (bindL l v y) a = apT (bindL l v y) b := by
  refine ⟨hl.bind hv hyv hn hy hok, .inr (by simp [bindL]), fun t => ?_, ?_⟩
  · rw [apT_bind, apT_bind, hl.idem]
  · rw [apT_bind, apT_bind]; exact hab
def DeepC (β : Prop) (V : List (List UInt8)) (R : List TBinding → Prop) (P : List TBinding → TType → TType → Prop) (n : Nat) : Prop := ∀ (l : List TBinding) (as_ bs : List TType), Inv V l → R l → as_.length = bs.length → PR V R P l as_ bs → (V.length - l.length) * 4001 + tnds (apTs l as_) < n →
  ∃ r p, m_iUnify n l as_ bs = some (resI r) ∧ m_sAll (2 * n) as_ bs l = some p ∧ ResS r p ∧ (∀ l', r = some l' → Post V l l' as_ bs ∧ R l') ∧ UR β l as_ bs r ∧ (Suc V R P → r ≠ none)
theorem stepC (C : Ctl β V R P) (n : Nat) (hD : DeepC β V R P n) (l : List TBinding) (a b : TType) (xs bs : List TType) (k : Nat) (hl : Inv V l) (hR : R l) (hP : P l a b) (hk : bs[k]? = some b)
    (hm : (V.length - l.length) * 4001 + tnd (apT l a) ≤ n ∨ (V.length - l.length) * 4001 + 4000 < n) :
    ∃ r p, (∀ l', r = some l' → b_iUnify_l1 (m_iUnify n) bs (a :: xs) k l = b_iUnify_l1 (m_iUnify n) bs xs (k + 1) l') ∧ (r = none → b_iUnify_l1 (m_iUnify n) bs (a :: xs) k l = some (false, [])) ∧
      m_sUnify (2 * n + 1) a b l = some p ∧ ResS r p ∧ (∀ l', r = some l' → (Inv V l' ∧ (l' = l ∨ l.length < l'.length) ∧ (∀ t, apT l' (apT l t) = apT l' t) ∧ apT l' a = apT l' b) ∧ R l') ∧
      (∀ (as_ bs' : List TType) (r2 : Option (List TBinding)), (r = none → r2 = none) → (∀ l', r = some l' → UR β l' as_ bs' r2) → UR β l (a :: as_) (b :: bs') r2) ∧ (Suc V R P → r ≠ none) := by
  obtain ⟨ha, hb⟩ := C.good hP
  have hbk : bok l := hl.ok
  obtain ⟨hx4, hy4⟩ := C.big hl hR hP
  have hlim := C.lim hl hR hP
  have hxv := hl.vars ha
  have hyv := hl.vars hb
  have hxo := apT_tok hbk a ha.ok
  have hyo := apT_tok hbk b hb.ok
  have hll : l.length ≤ 8 := Nat.le_trans hl.lenV C.few
  have hix := hl.idem a
  have hiy := hl.idem b
  have hw := wsum hx4 hy4
  generalize hI : b_iUnify_l1 (m_iUnify n) bs (a :: xs) k l = rI
  rw [b_iUnify_l1.eq_2, at_nat, hk] at hI
  simp only [bnd, lt_] at hI
  rw [gd_eq ⟨hbk, ha.ok⟩, gd_eq ⟨hbk, hb.ok⟩] at hI
  generalize hS : m_sUnify (2 * n + 1) a b l = rS
  rw [m_sUnify.eq_2] at hS
  unfold b_sUnify at hS
  simp only [lt_] at hS
  rw [gd_eq ⟨hbk, ha.ok⟩, gd_eq ⟨hbk, hb.ok⟩] at hS
  subst hI
  subst hS
  rw [hw]
  have hxlk : ∀ v ∈ tvs (apT l a), v ∈ V ∧ v ∉ dom l := hxv
  generalize hX : apT l a = x at *
  generalize hY : apT l b = y at *
  cases ht : teq x y with
  | true =>
    have e := (teq_iff x y).1 ht
    simp only [cnd_true]
    refine ⟨some l, (l, true), fun l' h => (by cases h; rfl), fun h => (by cases h), rfl, rfl, fun l' h => ?_, fun as_ bs' r2 _ h2 => .eq (by rw [hX, hY, e]) (h2 l rfl), fun _ h => (by cases h)⟩
    cases h
    exact ⟨⟨hl, .inl rfl, hl.idem, by rw [hX, hY, e]⟩, hR⟩
  | false =>
    have hne : x ≠ y := fun e => by rw [(teq_iff x y).2 e] at ht; cases ht
    simp only [cnd_false]
    by_cases hs : tnd x + tnd y ≤ 4000
    · have hd : decide (((tnd x : Int) + (tnd y : Int)) > 4000) = false := decide_eq_false (by omega)
      rw [hd]
      simp only [cnd_false]
      by_cases kx : x.kind = 1
      · have e1 : (x.kind == 1) = true := by simp [kx]
        have e2 : (x.kind != 1) = false := by simp [kx]
        simp only [e1, e2, cnd_true, cnd_false]
        rw [iOcc (by omega), sOcc (by omega), sBound_eqC l x.name y hbk hyo hll]
        by_cases ho : x.name ∈ tvs y
        · have : decide (x.name ∈ tvs y) = true := decide_eq_true ho
          rw [this]
          simp only [cnd_true, bnd]
          exact ⟨none, _, fun l' h => (by cases h), fun _ => (by trivial), rfl, rfl, fun l' h => (by cases h), fun as_ bs' r2 h1 _ => (by rw [h1 rfl]; exact .ox hX hY hne kx ho), fun hS _ => (hS l a b x y hl hR hP hX hY hne).2.1 kx ho⟩
        · have : decide (x.name ∈ tvs y) = false := decide_eq_false ho
          rw [this]
          simp only [cnd_false, bnd]
          rw [l3_eq x y _ (fun c hc => by simp at hc; subst hc; exact hyo) l.length 0 l (by simp) (fun c hc => hbk c (by simpa using hc))]
          have e3 : List.take 0 l ++ List.map (fun b => (⟨b.var_, apT [⟨x.name, y⟩] b.type_⟩ : TBinding)) (List.drop 0 l) ++ [⟨x.name, y⟩] = bindL l x.name y := by simp [bindL]
          rw [gd_eq (by simp; omega), e3]
          refine ⟨some (bindL l x.name y), _, fun l' h => (by cases h; rfl), fun h => (by cases h), rfl, rfl, fun l' h => ?_, fun as_ bs' r2 _ h2 => .bx hX hY hne kx ho (h2 _ rfl), fun _ h => (by cases h)⟩
          cases h
          exact ⟨bind_givesC hl (by omega) hyo (hxlk _ (var_in kx)) hyv ho (by rw [hX, hY, ap_var kx rfl, ap_no ho]), C.bx hl hR hP hX hY hne hs kx ho⟩
      · have e1 : (x.kind == 1) = false := beq_false_of_ne kx
        have e2 : (x.kind != 1) = true := by simp [kx]
        simp only [e1, e2, cnd_true, cnd_false]
        by_cases ky : y.kind = 1
        · have e4 : (y.kind == 1) = true := by simp [ky]
          simp only [e4, cnd_true]
          rw [iOcc (by omega), sOcc (by omega), sBound_eqC l y.name x hbk hxo hll]
          by_cases ho : y.name ∈ tvs x
          · have : decide (y.name ∈ tvs x) = true := decide_eq_true ho
            rw [this]
            simp only [cnd_true, bnd]
            exact ⟨none, _, fun l' h => (by cases h), fun _ => (by trivial), rfl, rfl, fun l' h => (by cases h), fun as_ bs' r2 h1 _ => (by rw [h1 rfl]; exact .ov hX hY hne kx ky ho), fun hS _ => (hS l a b x y hl hR hP hX hY hne).2.2.1 kx ky ho⟩
          · have : decide (y.name ∈ tvs x) = false := decide_eq_false ho
            rw [this]
            simp only [cnd_false, bnd]
            rw [l2_eq x y _ (fun c hc => by simp at hc; subst hc; exact hxo) l.length 0 l (by simp) (fun c hc => hbk c (by simpa using hc))]
            have e3 : List.take 0 l ++ List.map (fun b => (⟨b.var_, apT [⟨y.name, x⟩] b.type_⟩ : TBinding)) (List.drop 0 l) ++ [⟨y.name, x⟩] = bindL l y.name x := by simp [bindL]
            rw [gd_eq (by simp; omega), e3]
            refine ⟨some (bindL l y.name x), _, fun l' h => (by cases h; rfl), fun h => (by cases h), rfl, rfl, fun l' h => ?_, fun as_ bs' r2 _ h2 => .bv hX hY hne kx ky ho (h2 _ rfl), fun _ h => (by cases h)⟩
            cases h
            exact ⟨bind_givesC hl (by omega) hxo (hyv _ (var_in ky)) hxv ho (by rw [hX, hY, ap_var ky rfl, ap_no ho]), C.bv hl hR hP hX hY hne hs kx ky ho⟩
        · have e4 : (y.kind == 1) = false := beq_false_of_ne ky
          simp only [e4, cnd_false]
          cases hc : (cnd (x.kind != y.kind) true (cnd (!(x.name == y.name)) true ((x.args.length : Int) != (y.args.length : Int)))) with
          | true =>
            simp only [cnd_true]
            have hcl : ¬ (x.kind = y.kind ∧ x.name = y.name ∧ x.args.length = y.args.length) := by
              rintro ⟨f1, f2, f3⟩
              rw [f1, f2, f3] at hc
              simp [cnd_false] at hc
            exact ⟨none, _, fun l' h => (by cases h), fun _ => (by trivial), rfl, rfl, fun l' h => (by cases h), fun as_ bs' r2 h1 _ => (by rw [h1 rfl]; exact .clash hX hY kx ky hcl), fun hS _ => hcl ((hS l a b x y hl hR hP hX hY hne).2.2.2 kx ky)⟩
          | false =>
            simp only [cnd_false]
            have f1 : x.kind = y.kind := by
              cases h : (x.kind != y.kind) with
              | true => rw [h] at hc; simp [cnd_true] at hc
              | false => simpa using h
            have f2 : x.name = y.name := by
              rw [show (x.kind != y.kind) = false by simp [f1]] at hc
              simp only [cnd_false] at hc
              cases h : (x.name == y.name) with
              | true => exact eq_of_beq h
              | false => rw [h] at hc; simp [cnd_true] at hc
            have f3 : x.args.length = y.args.length := by
              rw [show (x.kind != y.kind) = false by simp [f1], show (x.name == y.name) = true by simp [f2]] at hc
              simp only [cnd_false, Bool.not_true] at hc
              have : ((x.args.length : Int)) = y.args.length := by simpa using hc
              omega
            obtain ⟨g1, g2, g3⟩ := args_good (V := V) (by omega) hxo (fun v hv => (hxv v hv).1)
            have hxa : apTs l x.args = x.args := apTs_out _ (fun v hv => (hxv v (g3 v hv)).2)
            obtain ⟨r, p, q1, q2, q3, q4, q5, q6⟩ := hD l x.args y.args hl hR f3 (C.args hl hR hP hX hY hne hs kx ky f1 f2 f3) (by rw [hxa]; omega)
            rw [q1, q2]
            simp only [bnd]
            cases r with
            | none =>
              simp only [resI, Bool.not_false, cnd_true]
              exact ⟨none, _, fun l' h => (by cases h), fun _ => (by trivial), rfl, q3, fun l' h => (by cases h), fun as_ bs' r2 h1 _ => (by rw [h1 rfl]; exact .deepN hX hY kx ky q5), fun hS _ => q6 hS rfl⟩
            | some l2 =>
              simp only [resI, Bool.not_true, cnd_false]
              refine ⟨some l2, _, fun l' h => (by cases h; rfl), fun h => (by cases h), rfl, ?_, fun l' h => ?_, fun as_ bs' r2 _ h2 => .deep hX hY kx ky q5 (h2 _ rfl), fun _ h => (by cases h)⟩
              · have : p = (l2, true) := q3
                subst this
                rfl
              · cases h
                obtain ⟨⟨w1, w2, w3, w4⟩, w5⟩ := q4 l2 rfl
                refine ⟨⟨w1, w2, w3, ?_⟩, w5⟩
                rw [← w3 a, ← w3 b, hX, hY]
                exact apTs_args (l := l) f1 f2 kx w4
    · have hd : decide (((tnd x : Int) + (tnd y : Int)) > 4000) = true := decide_eq_true (by omega)
      rw [hd]
      simp only [cnd_true]
      exact ⟨none, _, fun l' h => (by cases h), fun _ => (by trivial), rfl, rfl, fun l' h => (by cases h), fun as_ bs' r2 h1 _ => (by rw [h1 rfl]; exact .big (hlim.resolve_right hs) (by rw [hX, hY]; exact hne) (by rw [hX, hY]; omega)), fun hS _ => hs (hS l a b x y hl hR hP hX hY hne).1⟩
/-- A row of pairs. -/
theorem rowC (C : Ctl β V R P) (n : Nat) (hD : DeepC β V R P n) (bs : List TType) (xs : List TType) : ∀ (k : Nat) (l : List TBinding), Inv V l → R l → PR V R P l xs (bs.drop k) → bs.length = k + xs.length → ((V.length - l.length) * 4001 + tnds (apTs l xs) ≤ n ∨ (V.length - l.length) * 4001 + 4000 < n) →
    ∃ r p, b_iUnify_l1 (m_iUnify n) bs xs k l = some (resI r) ∧ b_sAll_l1 (m_sUnify (2 * n + 1)) bs xs k l = some p ∧ ResS r p ∧ (∀ l', r = some l' → Post V l l' xs (bs.drop k) ∧ R l') ∧ UR β l xs (bs.drop k) r ∧ (Suc V R P → r ≠ none) := by
  induction xs with
  | nil =>
    intro k l hl hR _ h _
    have hd : bs.drop k = [] := by rw [List.drop_of_length_le (by simp at h; omega)]
    refine ⟨some l, (l, true), rfl, rfl, rfl, fun l' h' => ?_, (by rw [hd]; exact .nil), fun _ h => (by cases h)⟩
    cases h'
    exact ⟨⟨hl, .inl rfl, hl.idem, by rw [hd]⟩, hR⟩
  | cons a xs ih =>
    intro k l hl hR hPs h hm
    simp only [List.length_cons] at h
    have hk : k < bs.length := by omega
    have hbk : bs[k]? = some bs[k] := List.getElem?_eq_getElem hk
    have hdr : bs.drop k = bs[k] :: bs.drop (k + 1) := List.drop_eq_getElem_cons hk
    rw [hdr] at hPs ⊢
    have ha : tnds (apTs l (a :: xs)) = tnd (apT l a) + tnds (apTs l xs) := rfl
    rw [ha] at hm
    obtain ⟨r, p, s1, s2, s3, s4, s5, s6, s7⟩ := stepC C n hD l a bs[k] xs bs k hl hR hPs.1 hbk (by omega)
    have sL : b_sAll_l1 (m_sUnify (2 * n + 1)) bs (a :: xs) k l = cnd (!p.2) (some (l, false)) (b_sAll_l1 (m_sUnify (2 * n + 1)) bs xs (k + 1) p.1) := by
      rw [b_sAll_l1.eq_2, at_nat, hbk]
      simp only [bnd]
      rw [s3]
    cases r with
    | none =>
      refine ⟨none, (l, false), s2 rfl, ?_, rfl, fun l' h => (by cases h), s6 _ _ _ (fun _ => rfl) (fun l' h => (by cases h)), fun hS _ => s7 hS rfl⟩
      rw [sL]
      have : p.2 = false := s4
      rw [this]
      rfl
    | some l1 =>
      have hp : p = (l1, true) := s4
      subst hp
      obtain ⟨⟨w1, w2, w3, w4⟩, w5⟩ := s5 l1 rfl
      have hl1 := w1.lenV
      have hm2 : (V.length - l1.length) * 4001 + tnds (apTs l1 xs) ≤ n ∨ (V.length - l1.length) * 4001 + 4000 < n := by
        rcases w2 with rfl | w2
        · omega
        · right
          have : (V.length - l1.length) * 4001 + 4001 ≤ (V.length - l.length) * 4001 := by omega
          omega
      obtain ⟨r2, p2, z1, z2, z3, z4, z5, z6⟩ := ih (k + 1) l1 w1 w5 (hPs.2 l1 w1 w5 w3) (by omega) hm2
      refine ⟨r2, p2, by rw [s1 l1 rfl]; exact z1, by rw [sL]; exact z2, z3, fun l' h' => ?_, s6 _ _ _ (fun h => (by cases h)) (fun l' h => (by cases h; exact z5)), z6⟩
      obtain ⟨⟨y1, y2, y3, y4⟩, y5⟩ := z4 l' h'
      refine ⟨⟨y1, ?_, fun t => ?_, ?_⟩, y5⟩
      · rcases w2 with rfl | w2
        · exact y2
        · right
          rcases y2 with rfl | y2 <;> omega
      · rw [← y3 (apT l t), w3, y3]
      · simp only [apTs]
        rw [y4, ← y3 a, ← y3 bs[k], w4]
theorem deepC (C : Ctl β V R P) : ∀ n, DeepC β V R P n
  | 0 => fun l as_ bs _ _ _ _ h => by omega
  | n + 1 => fun l as_ bs hl hR hlen hP hm => by
    obtain ⟨r, p, h1, h2, h3, h4, h5, h6⟩ := rowC C n (deepC C n) bs as_ 0 l hl hR (by simpa using hP) (by omega) (.inl (by omega))
    rw [List.drop_zero] at h4 h5
    refine ⟨r, p, ?_, ?_, h3, h4, h5, h6⟩
    · rw [m_iUnify.eq_2]
      exact h1
    · rw [show 2 * (n + 1) = (2 * n + 1) + 1 by omega, m_sAll.eq_2]
      exact h2
/-- Both programs on a row of pairs, started with nothing. -/
def Res (n : Nat) (as_ bs : List TType) (s : Prop) : Prop := ∃ r p, m_iUnify n [] as_ bs = some (resI r) ∧ m_sAll (2 * n) as_ bs [] = some p ∧ ResS r p ∧ (∀ l', r = some l' → bok l' ∧ l'.length ≤ 8 ∧ apTs l' as_ = apTs l' bs) ∧ (tnas as_ → tnas bs → ∀ q, apTs q as_ = apTs q bs → r ≠ none) ∧ (s → r ≠ none)
theorem out_nil (t : TType) : apT [] t = t := apT_out t (fun v _ hd => by simp [dom] at hd)
theorem outs_nil (ts : List TType) : apTs [] ts = ts := apTs_out ts (fun v _ hd => by simp [dom] at hd)
theorem Inv.nil : Inv V [] := ⟨by simp [dom], by simp [dom], by simp, by simp, fun b hb => by simp at hb⟩
theorem resC (C : Ctl False V R P) (h0 : R []) (n : Nat) {as_ bs : List TType} (hlen : as_.length = bs.length) (hP : PR V R P [] as_ bs) (hn : V.length * 4001 + tnds as_ < n) : Res n as_ bs (Suc V R P) := by
  obtain ⟨r, p, q1, q2, q3, q4, q5, q6⟩ := deepC C n [] as_ bs .nil h0 hlen hP (by
    rw [outs_nil]
    simpa using hn)
  refine ⟨r, p, q1, q2, q3, fun l' h => ?_, fun h1 h2 q hq hr => ?_, q6⟩
  · obtain ⟨⟨w1, _, _, w4⟩, _⟩ := q4 l' h
    exact ⟨w1.ok, Nat.le_trans w1.lenV C.few, w4⟩
  · obtain ⟨l', e, _⟩ := q5.complete (.nil q) tnaB_nil h1 h2 hq
    rw [hr] at e
    cases e
end
end Go.Proofs.Ytiaghdodeinecaa
set_option linter.unusedVariables false
set_option linter.unusedSimpArgs false
set_option linter.unusedSectionVars false
namespace Go.Proofs.Ytiaghdodeinecaa
open Go Go.Eng
attribute [local irreducible] V VO VQ VY Quiet QR SpecP SpecO Rng PostP PostO PostG
/-! ### what may meet, by hand -/
mutual
def apF (f : List UInt8 → TType) : TType → TType
  | ⟨k, n, ts⟩ => if k = 1 then f n else ⟨k, n, apFs f ts⟩
def apFs (f : List UInt8 → TType) : List TType → List TType
  | [] => []
  | a :: ts => apF f a :: apFs f ts
end
mutual
theorem apF_ap (s : List TBinding) : ∀ (t : TType), tna t → apT s t = apF (fun v => apT s ⟨1, v, []⟩) t
  | ⟨k, n, ts⟩, h => by
    simp only [tna] at h
    by_cases hk : k = 1
    · subst hk
      have := h.1 rfl
      subst this
      simp [apF]
    · rw [apT_con _ _ _ _ hk, apF, if_neg hk, apFs_ap s ts h.2]
theorem apFs_ap (s : List TBinding) : ∀ (ts : List TType), tnas ts → apTs s ts = apFs (fun v => apT s ⟨1, v, []⟩) ts
  | [], _ => rfl
  | a :: ts, h => by
    simp only [tnas] at h
    simp only [apTs, apFs]
    rw [apF_ap s a h.1, apFs_ap s ts h.2]
end
mutual
theorem apT_apF (s : List TBinding) (g : List UInt8 → TType) : ∀ (t : TType), apT s (apF g t) = apF (fun v => apT s (g v)) t
  | ⟨k, n, ts⟩ => by
    simp only [apF]
    by_cases hk : k = 1
    · rw [if_pos hk, if_pos hk]
    · rw [if_neg hk, if_neg hk, apT_con _ _ _ _ hk, apTs_apFs s g ts]
theorem apTs_apFs (s : List TBinding) (g : List UInt8 → TType) : ∀ (ts : List TType), apTs s (apFs g ts) = apFs (fun v => apT s (g v)) ts
  | [] => rfl
  | a :: ts => by simp only [apFs, apTs, apT_apF s g a, apTs_apFs s g ts]
end
mutual
theorem apF_congr {f g : List UInt8 → TType} : ∀ (t : TType), (∀ v ∈ tvs t, f v = g v) → apF f t = apF g t
  | ⟨k, n, ts⟩, h => by
    simp only [apF]
    by_cases hk : k = 1
    · rw [if_pos hk, if_pos hk, h n (by simp [tvs, hk])]
    · rw [if_neg hk, if_neg hk, apFs_congr ts (fun v hv => h v (by simp [tvs, hk, hv]))]
theorem apFs_congr {f g : List UInt8 → TType} : ∀ (ts : List TType), (∀ v ∈ tvss ts, f v = g v) → apFs f ts = apFs g ts
  | [], _ => rfl
  | a :: ts, h => by
    simp only [apFs]
    rw [apF_congr a (fun v hv => h v (by simp [tvss, hv])), apFs_congr ts (fun v hv => h v (by simp [tvss, hv]))]
end
def Meet (a b : TType) : Prop := ∃ f g, apF f a = apF g b
theorem Meet.symm {a b : TType} (h : Meet a b) : Meet b a := by
  obtain ⟨f, g, h⟩ := h
  exact ⟨g, f, h.symm⟩
def vr (v : List UInt8) : TType := ⟨1, v, []⟩
/-- A substitution out of a function, for the names of a list. -/
def lof (h : List UInt8 → TType) (V : List (List UInt8)) : List TBinding := V.map fun w => ⟨w, h w⟩
theorem lkp_lof (h : List UInt8 → TType) (v : List UInt8) : ∀ (V : List (List UInt8)), v ∈ V → lkp v (lof h V) = (h v, true)
  | [], hv => by simp at hv
  | w :: V, hv => by
    simp only [lof, List.map_cons, lkp]
    by_cases e : w = v
    · subst e; simp [cnd_true]
    · rw [beq_false_of_ne e, cnd_false]
      exact lkp_lof h v V ((List.mem_cons.1 hv).resolve_left (fun e' => e e'.symm))
theorem ap_lof (h : List UInt8 → TType) (V : List (List UInt8)) (t : TType) (ht : tna t) (hv : ∀ v ∈ tvs t, v ∈ V) : apT (lof h V) t = apF h t := by
  rw [apF_ap _ t ht]
  refine apF_congr t fun v hm => ?_
  have := lkp_lof h v V (hv v hm)
  rw [apT_var1 _ _ _ (by rw [this]), this]
/-- A renaming of some names, apart from others. -/
structure Ren (va vb : List (List UInt8)) (ρ : List TBinding) : Prop where
  rng : ∀ v ∈ vb, v ∈ va → ∃ s, lkp v ρ = (vr s, true) ∧ s ∉ va ∧ s ∉ vb
  out : ∀ v, ¬ (v ∈ vb ∧ v ∈ va) → (lkp v ρ).2 = false
  inj : ∀ u v s, lkp u ρ = (vr s, true) → lkp v ρ = (vr s, true) → u = v
def phi (ρ : List TBinding) (v : List UInt8) : List UInt8 := cnd (lkp v ρ).2 (lkp v ρ).1.name v
section
variable {va vb : List (List UInt8)} {ρ : List TBinding}
theorem Ren.var (h : Ren va vb ρ) {v : List UInt8} (hv : v ∈ vb) : apT ρ (vr v) = vr (phi ρ v) := by
  unfold phi
  by_cases hm : v ∈ va
  · obtain ⟨s, h1, _⟩ := h.rng v hv hm
    unfold vr
    rw [apT_var1 _ _ _ (by rw [h1]), h1, cnd_true]
    rfl
  · have h1 := h.out v (fun e => hm e.2)
    unfold vr
    rw [apT_var0 _ _ _ h1, h1, cnd_false]
    rfl
theorem Ren.fresh (h : Ren va vb ρ) {v : List UInt8} (hv : v ∈ vb) : phi ρ v ∉ va := by
  unfold phi
  by_cases hm : v ∈ va
  · obtain ⟨s, h1, h2, _⟩ := h.rng v hv hm
    rw [h1, cnd_true]
    exact h2
  · rw [h.out v (fun e => hm e.2), cnd_false]
    exact hm
theorem Ren.inj2 (h : Ren va vb ρ) {u v : List UInt8} (hu : u ∈ vb) (hv : v ∈ vb) (e : phi ρ u = phi ρ v) : u = v := by
  unfold phi at e
  by_cases hm : u ∈ va
  · obtain ⟨s, h1, h2, h3⟩ := h.rng u hu hm
    rw [h1, cnd_true] at e
    by_cases hn : v ∈ va
    · obtain ⟨r, k1, k2, k3⟩ := h.rng v hv hn
      rw [k1, cnd_true] at e
      have e : s = r := e
      subst e
      exact h.inj u v s h1 k1
    · rw [h.out v (fun e => hn e.2), cnd_false] at e
      have e : s = v := e
      subst e
      exact absurd hv h3
  · rw [h.out u (fun e => hm e.2), cnd_false] at e
    by_cases hn : v ∈ va
    · obtain ⟨r, k1, k2, k3⟩ := h.rng v hv hn
      rw [k1, cnd_true] at e
      have e : u = r := e
      subst e
      exact absurd hu k3
    · rwa [h.out v (fun e => hn e.2), cnd_false] at e
theorem Ren.ap (h : Ren va vb ρ) {b : TType} (hb : tna b) (hv : ∀ v ∈ tvs b, v ∈ vb) : apT ρ b = apF (fun v => vr (phi ρ v)) b := by
  rw [apF_ap _ b hb]
  exact apF_congr b fun v hm => h.var (hv v hm)
theorem sol_meet (h : Ren va vb ρ) {a b : TType} {s : List TBinding} (ha : tna a) (hb : tna b) (hv : ∀ v ∈ tvs b, v ∈ vb) (e : apT s a = apT s (apT ρ b)) : Meet a b := by
  rw [h.ap hb hv, apT_apF, apF_ap s a ha] at e
  exact ⟨_, _, e⟩
theorem meet_sol (h : Ren va vb ρ) {a b : TType} (ha : tna a) (hb : tna b) (hva : ∀ v ∈ tvs a, v ∈ va) (hvb : ∀ v ∈ tvs b, v ∈ vb) {f g : List UInt8 → TType} (e : apF f a = apF g b) : ∃ s, apT s a = apF f a ∧ apT s (apT ρ b) = apF f a := by
  let hh : List UInt8 → TType := fun w => if w ∈ va then f w else g ((vb.find? (fun v => phi ρ v == w)).getD [])
  have h1 : ∀ v ∈ va, hh v = f v := fun v hm => if_pos hm
  have h2 : ∀ v ∈ vb, hh (phi ρ v) = g v := fun v hm => by
    show (if phi ρ v ∈ va then _ else _) = _
    rw [if_neg (h.fresh hm)]
    have : vb.find? (fun u => phi ρ u == phi ρ v) = some v := by
      cases hf : vb.find? (fun u => phi ρ u == phi ρ v) with
      | none => exact absurd (List.find?_eq_none.1 hf v hm) (by simp)
      | some u =>
        have k1 := List.mem_of_find?_eq_some hf
        have k2 := List.find?_some hf
        rw [h.inj2 k1 hm (eq_of_beq k2)]
    rw [this]
    rfl
  refine ⟨lof hh (va ++ vb.map (phi ρ)), ?_, ?_⟩
  · rw [ap_lof hh _ a ha (fun v hm => List.mem_append.2 (.inl (hva v hm)))]
    exact apF_congr a fun v hm => h1 v (hva v hm)
  · rw [h.ap hb hvb, apT_apF, e]
    refine apF_congr b fun v hm => ?_
    have k := lkp_lof hh (phi ρ v) (va ++ vb.map (phi ρ)) (List.mem_append.2 (.inr (List.mem_map_of_mem (hvb v hm))))
    unfold vr
    rw [apT_var1 _ _ _ (by rw [k]), k]
    exact h2 v (hvb v hm)
end
end Go.Proofs.Ytiaghdodeinecaa
set_option linter.unusedVariables false
set_option linter.unusedSimpArgs false
set_option linter.unusedSectionVars false
namespace Go.Proofs.Ytiaghdodeinecaa
open Go Go.Eng
attribute [local irreducible] V VO VQ VY Quiet QR SpecP SpecO Rng PostP PostO PostG
/-! ### sizes: every bound variable stands for a part of what was given -/
theorem Ty2.mono {d e : Nat} {t : TType} (h : Ty2 d t) (hd : d ≤ e) : Ty2 e t := by
  induction h generalizing e with
  | var v => exact .var v
  | con0 s => exact .con0 s
  | con1 s _ ih =>
    obtain ⟨e, rfl⟩ : ∃ e', e = e' + 1 := ⟨e - 1, by omega⟩
    exact .con1 s (ih (by omega))
  | con2 s _ _ ih1 ih2 =>
    obtain ⟨e, rfl⟩ : ∃ e', e = e' + 1 := ⟨e - 1, by omega⟩
    exact .con2 s (ih1 (by omega)) (ih2 (by omega))
theorem Ty2.sz {d : Nat} {t : TType} (h : Ty2 d t) : tnd t + 1 ≤ 2 ^ (d + 1) := by
  have hp : ∀ d : Nat, 2 ≤ 2 ^ (d + 1) := fun d => by
    have : 1 ≤ 2 ^ d := Nat.one_le_two_pow
    rw [Nat.pow_succ]; omega
  induction h with
  | @var d v => have := hp d; simp only [tnd, tnds]; omega
  | @con0 d s => have := hp d; simp only [tnd, tnds]; omega
  | @con1 d s a _ ih => rw [Nat.pow_succ]; simp only [tnd, tnds]; omega
  | @con2 d s a b _ _ ih1 ih2 => rw [Nat.pow_succ]; simp only [tnd, tnds]; omega
theorem Ty2.ap {s : List TBinding} {d e : Nat} {t : TType} (h : Ty2 d t) (hs : ∀ v ∈ tvs t, Ty2 e (apT s (vr v))) : Ty2 (d + e) (apT s t) := by
  induction h with
  | var v => exact (hs v (by simp [tvs])).mono (by omega)
  | con0 r => rw [apT_con _ _ _ _ (by decide)]; exact .con0 r
  | @con1 d r a _ ih =>
    rw [apT_con _ _ _ _ (by decide), show d + 1 + e = d + e + 1 by omega]
    exact .con1 r (ih (fun v hv => hs v (by simp [tvs, tvss, hv])))
  | @con2 d r a b _ _ ih1 ih2 =>
    rw [apT_con _ _ _ _ (by decide), show d + 1 + e = d + e + 1 by omega]
    exact .con2 r (ih1 (fun v hv => hs v (by simp [tvs, tvss, hv]))) (ih2 (fun v hv => hs v (by simp [tvs, tvss, hv])))
theorem countP_lt {α : Type} {p q : α → Bool} : ∀ {l : List α}, (∀ x ∈ l, p x = true → q x = true) → ∀ {a : α}, a ∈ l → q a = true → p a = false → l.countP p + 1 ≤ l.countP q
  | [], _, a, ha, _, _ => by simp at ha
  | x :: l, h, a, ha, hq, hp => by
    have hmono : l.countP p ≤ l.countP q := List.countP_mono_left (fun x hx => h x (by simp [hx]))
    simp only [List.countP_cons]
    rcases List.mem_cons.1 ha with rfl | ha
    · rw [hq, hp]; simp; omega
    · have ih := countP_lt (fun x hx => h x (by simp [hx])) ha hq hp
      have hx := h x (by simp)
      cases hpx : p x with
      | true => rw [hx hpx]; simp; omega
      | false => simp; cases q x <;> simp <;> omega
theorem var_lt {l : List TBinding} {p : TType} (hp : tna p) (hk : p.kind ≠ 1) {u : List UInt8} (hu : u ∈ tvs p) : tnd (apT l (vr u)) < tnd (apT l p) := by
  obtain ⟨k, n, ts⟩ := p
  simp only at hk
  simp only [tna] at hp
  have := tnds_var l u ts hp.2 (by simpa [tvs, hk] using hu)
  rw [apT_con _ _ _ _ hk]
  simp only [tnd, vr]
  omega
/-- Every bound variable has a schema. -/
def RT (T : List TType) (l : List TBinding) : Prop := ∀ v ∈ dom l, ∃ p, (p ∈ T ∨ Ty2 1 p) ∧ apT l (vr v) = apT l p ∧ (p.kind = 1 → p.name ∉ dom l)
section
variable {T : List TType} {l : List TBinding} {V : List (List UInt8)}
theorem ap_free {v : List UInt8} (h : v ∉ dom l) : apT l (vr v) = vr v := by
  unfold vr
  rw [apT_var0 _ _ _ (lkp_out h)]
  rfl
theorem sch2 (hT : ∀ p ∈ T, Ty2 2 p) {p : TType} (h : p ∈ T ∨ Ty2 1 p) : Ty2 2 p := h.elim (hT p) (fun h => h.mono (by omega))
theorem ty_var {d : Nat} {p : TType} (h : Ty2 d p) (hk : p.kind = 1) : p = vr p.name := tna_var h.tna hk
def kk (l : List TBinding) (m : Nat) : Nat := (dom l).countP fun u => decide (tnd (apT l (vr u)) ≤ m)
def mm (T : List TType) (l : List TBinding) (m : Nat) : Nat := T.countP fun t => decide (tnd (apT l t) ≤ m)
theorem RT.ty (hT : ∀ p ∈ T, Ty2 2 p) (hR : RT T l) : ∀ (m : Nat) (v : List UInt8), tnd (apT l (vr v)) ≤ m → Ty2 (kk l (tnd (apT l (vr v))) + mm T l (tnd (apT l (vr v)))) (apT l (vr v))
  | 0, v, h => by have := tnd_pos (apT l (vr v)); omega
  | m + 1, v, h => by
    by_cases hv : v ∈ dom l
    · obtain ⟨p, h1, h2, h3⟩ := hR v hv
      have hp2 := sch2 hT h1
      by_cases hk : p.kind = 1
      · rw [h2, ty_var hp2 hk, ap_free (h3 hk)]
        exact .var _
      · have lt : ∀ u ∈ tvs p, tnd (apT l (vr u)) < tnd (apT l (vr v)) := fun u hu => by rw [h2]; exact var_lt hp2.tna hk hu
        have ih : ∀ u ∈ tvs p, Ty2 (kk l (tnd (apT l (vr u))) + mm T l (tnd (apT l (vr u)))) (apT l (vr u)) := fun u hu => RT.ty hT hR m u (by have := lt u hu; omega)
        have k1 : ∀ u ∈ tvs p, kk l (tnd (apT l (vr u))) + 1 ≤ kk l (tnd (apT l (vr v))) := fun u hu =>
          countP_lt (fun w _ hw => decide_eq_true (by have := of_decide_eq_true hw; have := lt u hu; omega)) hv (decide_eq_true (Nat.le_refl _)) (decide_eq_false (by have := lt u hu; omega))
        have m1 : ∀ u ∈ tvs p, mm T l (tnd (apT l (vr u))) ≤ mm T l (tnd (apT l (vr v))) := fun u hu =>
          List.countP_mono_left (fun w _ hw => decide_eq_true (by have := of_decide_eq_true hw; have := lt u hu; omega))
        have kpos : 1 ≤ kk l (tnd (apT l (vr v))) := List.countP_pos_iff.2 ⟨v, hv, decide_eq_true (Nat.le_refl _)⟩
        rcases h1 with h1 | h1
        · have mpos : 1 ≤ mm T l (tnd (apT l (vr v))) := List.countP_pos_iff.2 ⟨p, h1, decide_eq_true (by rw [h2]; exact Nat.le_refl _)⟩
          have m2 : ∀ u ∈ tvs p, mm T l (tnd (apT l (vr u))) + 1 ≤ mm T l (tnd (apT l (vr v))) := fun u hu =>
            countP_lt (fun w _ hw => decide_eq_true (by have := of_decide_eq_true hw; have := lt u hu; omega)) h1 (decide_eq_true (by rw [h2]; exact Nat.le_refl _)) (decide_eq_false (by have := lt u hu; rw [h2] at this; omega))
          have := hp2.ap (s := l) (e := kk l (tnd (apT l (vr v))) + mm T l (tnd (apT l (vr v))) - 2) (fun u hu => (ih u hu).mono (by have := k1 u hu; have := m2 u hu; omega))
          rw [← h2] at this
          exact this.mono (by omega)
        · have := h1.ap (s := l) (e := kk l (tnd (apT l (vr v))) + mm T l (tnd (apT l (vr v))) - 1) (fun u hu => (ih u hu).mono (by have := k1 u hu; have := m1 u hu; omega))
          rw [← h2] at this
          exact this.mono (by omega)
    · rw [ap_free hv]
      exact .var _
theorem RT.ap2 (hT : ∀ p ∈ T, Ty2 2 p) (hT2 : T.length ≤ 2) (hl : l.length ≤ 4) (hR : RT T l) {p : TType} (hp : Ty2 2 p) : Ty2 8 (apT l p) := by
  refine hp.ap (e := 6) fun v hv => (RT.ty hT hR _ v (Nat.le_refl _)).mono ?_
  have h1 : kk l (tnd (apT l (vr v))) ≤ l.length := by
    have := List.countP_le_length (p := fun u => decide (tnd (apT l (vr u)) ≤ tnd (apT l (vr v)))) (l := dom l)
    rw [show (dom l).length = l.length by simp [dom]] at this
    exact this
  have h2 : mm T l (tnd (apT l (vr v))) ≤ T.length := List.countP_le_length
  omega
/-- A schema for what a part has become. -/
theorem RT.sch (hT : ∀ p ∈ T, Ty2 2 p) (hR : RT T l) {q : TType} (hq : q ∈ T ∨ Ty2 1 q) : ∃ p, (p ∈ T ∨ Ty2 1 p) ∧ apT l q = apT l p ∧ (p.kind = 1 → p.name ∉ dom l) := by
  by_cases hk : q.kind = 1
  · by_cases hm : q.name ∈ dom l
    · obtain ⟨p, h1, h2, h3⟩ := hR q.name hm
      exact ⟨p, h1, by rw [ty_var (sch2 hT hq) hk]; exact h2, h3⟩
    · exact ⟨q, hq, rfl, fun _ => hm⟩
  · exact ⟨q, hq, rfl, fun h => absurd h hk⟩
theorem RT.bind (hT : ∀ p ∈ T, Ty2 2 p) (hR : RT T l) {v : List UInt8} (hv : v ∉ dom l) {p0 : TType} (h0 : p0 ∈ T ∨ Ty2 1 p0) (h1 : p0.kind = 1 → p0.name ∉ dom l ∧ p0.name ≠ v) (hn : v ∉ tvs (apT l p0)) : RT T (bindL l v (apT l p0)) := by
  have hb : ∀ t, apT (bindL l v (apT l p0)) t = apT [⟨v, apT l p0⟩] (apT l t) := apT_bind l v (apT l p0)
  have hp0 : apT (bindL l v (apT l p0)) p0 = apT l p0 := by rw [hb, ap_no hn]
  have hvv : apT (bindL l v (apT l p0)) (vr v) = apT l p0 := by rw [hb, ap_free hv]; exact ap_var rfl rfl
  have dm : dom (bindL l v (apT l p0)) = dom l ++ [v] := dom_bind l v _
  have own : p0.kind = 1 → p0.name ∉ dom (bindL l v (apT l p0)) := fun hk => by
    rw [dm]
    simp only [List.mem_append, List.mem_singleton, not_or]
    exact h1 hk
  intro u hu
  rw [dm] at hu
  rcases List.mem_append.1 hu with hu | hu
  · obtain ⟨p, q1, q2, q3⟩ := hR u hu
    by_cases hk : p.kind = 1 ∧ p.name = v
    · refine ⟨p0, h0, ?_, own⟩
      rw [hb, q2, ty_var (sch2 hT q1) hk.1, hk.2, ← hb, hvv, hp0]
    · refine ⟨p, q1, by rw [hb, q2, ← hb], fun h => ?_⟩
      rw [dm]
      simp only [List.mem_append, List.mem_singleton, not_or]
      exact ⟨q3 h, fun e => hk ⟨h, e⟩⟩
  · simp only [List.mem_singleton] at hu
    subst hu
    exact ⟨p0, h0, by rw [hvv, hp0], own⟩
def PT (V : List (List UInt8)) (T : List TType) (l : List TBinding) (c d : TType) : Prop := (Good V c ∧ Good V d) ∧ ∃ p q, Ty2 2 p ∧ Ty2 2 q ∧ (p.kind = 1 → q ∈ T ∨ Ty2 1 q) ∧ (q.kind = 1 → p ∈ T ∨ Ty2 1 p) ∧ apT l c = apT l p ∧ apT l d = apT l q
theorem ap_kind {p : TType} (h : p.kind ≠ 1) : (apT l p).kind = p.kind := by
  obtain ⟨k, n, ts⟩ := p
  rw [apT_con _ _ _ _ h]
/-- What is no variable comes from a part that is none. -/
theorem RT.nonvar (hT : ∀ p ∈ T, Ty2 2 p) (hR : RT T l) {p : TType} (hp : Ty2 2 p) (hk : (apT l p).kind ≠ 1) : ∃ q, Ty2 2 q ∧ q.kind ≠ 1 ∧ apT l p = apT l q := by
  by_cases h1 : p.kind = 1
  · have e := ty_var hp h1
    by_cases hm : p.name ∈ dom l
    · obtain ⟨q, q1, q2, q3⟩ := hR p.name hm
      refine ⟨q, sch2 hT q1, fun h => ?_, by rw [e]; exact q2⟩
      rw [e] at hk
      rw [show apT l (vr p.name) = apT l q from q2, ty_var (sch2 hT q1) h, ap_free (q3 h)] at hk
      exact hk rfl
    · rw [e, ap_free hm] at hk
      exact absurd rfl hk
  · exact ⟨p, hp, h1, rfl⟩
theorem Ty2.kids {p : TType} (h : Ty2 2 p) (hk : p.kind ≠ 1) : ∀ c ∈ p.args, Ty2 1 c := by
  cases h with
  | var v => exact absurd rfl hk
  | con0 s => simp
  | con1 s h => simpa using h
  | con2 s h1 h2 => simp [h1, h2]
theorem ap_args {p : TType} (h : p.kind ≠ 1) : (apT l p).args = apTs l p.args := by
  obtain ⟨k, n, ts⟩ := p
  rw [apT_con _ _ _ _ h]
theorem PR_kids {l0 : List TBinding} : ∀ (as_ bs : List TType) (l : List TBinding), (∀ t, apT l (apT l0 t) = apT l t) → (∀ c ∈ as_, Good V c ∧ ∃ p, Ty2 1 p ∧ c = apT l0 p) → (∀ c ∈ bs, Good V c ∧ ∃ p, Ty2 1 p ∧ c = apT l0 p) → PR V (RT T) (PT V T) l as_ bs
  | [], _, _, _, _, _ => trivial
  | _ :: _, [], _, _, _, _ => trivial
  | a :: as_, b :: bs, l, h, ha, hb => by
    obtain ⟨g1, p, p1, rfl⟩ := ha a (by simp)
    obtain ⟨g2, q, q1, rfl⟩ := hb b (by simp)
    refine ⟨⟨⟨g1, g2⟩, p, q, p1.mono (by omega), q1.mono (by omega), fun _ => .inr q1, fun _ => .inr p1, h p, h q⟩, fun l' _ _ he => ?_⟩
    exact PR_kids as_ bs l' (fun t => by rw [← he (apT l0 t), h t, he t]) (fun c hc => ha c (by simp [hc])) (fun c hc => hb c (by simp [hc]))
theorem schCtl (hV : V.length ≤ 4) (hT : ∀ p ∈ T, Ty2 2 p) (hT2 : T.length ≤ 2) : Ctl False V (RT T) (PT V T) := by
  have szs : ∀ {l : List TBinding} {a b : TType}, Inv V l → RT T l → PT V T l a b → Ty2 8 (apT l a) ∧ Ty2 8 (apT l b) ∧ tnd (apT l a) ≤ 511 ∧ tnd (apT l b) ≤ 511 := by
    intro l a b hl hR hP
    obtain ⟨_, p, q, h1, h2, _, _, h5, h6⟩ := hP
    have hlen := Nat.le_trans hl.lenV hV
    have t1 := hR.ap2 hT hT2 hlen h1
    have t2 := hR.ap2 hT hT2 hlen h2
    rw [h5, h6]
    have s1 := t1.sz
    have s2 := t2.sz
    exact ⟨t1, t2, by omega, by omega⟩
  refine ⟨by omega, fun h => h.1, fun hl hR hP => ?_, fun hl hR hP => ?_, ?_, ?_, ?_⟩
  · obtain ⟨_, _, h1, h2⟩ := szs hl hR hP
    exact ⟨by omega, by omega⟩
  · obtain ⟨_, _, h1, h2⟩ := szs hl hR hP
    exact .inr (by omega)
  · intro l a b x y hl hR hP hx hy hne _ hk ho
    obtain ⟨z1, z2, _, _⟩ := szs hl hR hP
    have vx := hl.vars hP.1.1
    obtain ⟨_, p, q, h1, h2, h3, _, h5, h6⟩ := hP
    rw [hx] at z1 h5 vx
    rw [hy] at h6
    have pk : p.kind = 1 := Classical.byContradiction fun h => by
      have := ap_kind (l := l) h
      rw [← h5, hk] at this
      exact h this.symm
    obtain ⟨p0, q1, q2, q3⟩ := hR.sch hT (h3 pk)
    rw [← h6] at q2
    have hvd : x.name ∉ dom l := (vx _ (var_in hk)).2
    rw [q2]
    rw [q2] at ho
    refine hR.bind hT hvd q1 (fun h => ⟨q3 h, fun e => hne ?_⟩) ho
    rw [q2, ty_var (sch2 hT q1) h, ap_free (q3 h), e]
    exact ty_var z1 hk
  · intro l a b x y hl hR hP hx hy hne _ _ hk ho
    obtain ⟨z1, z2, _, _⟩ := szs hl hR hP
    have vy := hl.vars hP.1.2
    obtain ⟨_, p, q, h1, h2, _, h4, h5, h6⟩ := hP
    rw [hy] at z2 h6 vy
    rw [hx] at h5
    have pk : q.kind = 1 := Classical.byContradiction fun h => by
      have := ap_kind (l := l) h
      rw [← h6, hk] at this
      exact h this.symm
    obtain ⟨p0, q1, q2, q3⟩ := hR.sch hT (h4 pk)
    rw [← h5] at q2
    have hvd : y.name ∉ dom l := (vy _ (var_in hk)).2
    rw [q2]
    rw [q2] at ho
    refine hR.bind hT hvd q1 (fun h => ⟨q3 h, fun e => hne ?_⟩) ho
    rw [q2, ty_var (sch2 hT q1) h, ap_free (q3 h), e]
    exact (ty_var z2 hk).symm
  · intro l a b x y hl hR hP hx hy _ hs kx ky _ _ _
    have vx := hl.vars hP.1.1
    have vy := hl.vars hP.1.2
    have ox := apT_tok hl.ok a hP.1.1.ok
    have oy := apT_tok hl.ok b hP.1.2.ok
    obtain ⟨_, p, q, h1, h2, _, _, h5, h6⟩ := hP
    rw [hx] at h5 vx ox
    rw [hy] at h6 vy oy
    obtain ⟨p', p1, p2, p3⟩ := hR.nonvar hT h1 (by rw [← h5]; exact kx)
    obtain ⟨q', q1, q2, q3⟩ := hR.nonvar hT h2 (by rw [← h6]; exact ky)
    rw [← h5] at p3
    rw [← h6] at q3
    obtain ⟨g1, _, _⟩ := args_good (V := V) (by omega) ox (fun v hv => (vx v hv).1)
    obtain ⟨g2, _, _⟩ := args_good (V := V) (by omega) oy (fun v hv => (vy v hv).1)
    refine PR_kids (l0 := l) x.args y.args l hl.idem (fun c hc => ⟨g1 c hc, ?_⟩) (fun c hc => ⟨g2 c hc, ?_⟩)
    · rw [p3, ap_args p2, apTs_map] at hc
      obtain ⟨t, t1, t2⟩ := List.mem_map.1 hc
      exact ⟨t, p1.kids p2 t t1, t2.symm⟩
    · rw [q3, ap_args q2, apTs_map] at hc
      obtain ⟨t, t1, t2⟩ := List.mem_map.1 hc
      exact ⟨t, q1.kids q2 t t1, t2.symm⟩
end
end Go.Proofs.Ytiaghdodeinecaa
