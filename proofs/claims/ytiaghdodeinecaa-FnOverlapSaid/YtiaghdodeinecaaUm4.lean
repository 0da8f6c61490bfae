/- Ma3. Written by a program of mine (aw.py). -/
import Derived.Test.YtiaghdodeinecaaEng43
import Derived.Test.YtiaghdodeinecaaMa2
import Derived.Test.YtiaghdodeinecaaUn1
set_option linter.unusedVariables false
set_option linter.unusedSimpArgs false
set_option linter.unusedSectionVars false
namespace Go.Proofs.Ytiaghdodeinecaa
open Go Go.Eng
attribute [local irreducible] V VO VQ VY Quiet QR SpecP SpecO Rng PostP PostO PostG
/-! ### the upper ends of what is drawn -/
section
variable {V : List (List UInt8)}
theorem Res.weak {n : Nat} {as_ bs : List TType} {s t : Prop} (h : Res n as_ bs s) (hs : t → s) : Res n as_ bs t := by
  obtain ⟨r, p, h1, h2, h3, h4, h5, h6⟩ := h
  exact ⟨r, p, h1, h2, h3, h4, h5, fun ht => h6 (hs ht)⟩
/-- Two parts each, of depth two. -/
theorem root_two (hV : V.length ≤ 4) (n : Nat) (hn : 20000 ≤ n) {p1 p2 q1 q2 : TType} (h1 : Ty2 2 p1) (h2 : Ty2 2 p2) (k1 : Ty2 2 q1) (k2 : Ty2 2 q2) (g1 : Good V p1) (g2 : Good V p2) (e1 : Good V q1) (e2 : Good V q2) : Res n [p1, p2] [q1, q2] False := by
  let tof : TType → TType → List TType := fun p q => if p.kind = 1 then [q] else if q.kind = 1 then [p] else []
  have t1 : ∀ p q, p.kind = 1 → q ∈ tof p q := fun p q h => by simp [tof, h]
  have t2 : ∀ p q, q.kind = 1 → p.kind ≠ 1 → p ∈ tof p q := fun p q h h' => by simp [tof, h, h']
  have t3 : ∀ p q, Ty2 2 p → Ty2 2 q → ∀ x ∈ tof p q, Ty2 2 x := fun p q hp hq x hx => by
    simp only [tof] at hx
    split at hx
    · simp at hx; subst hx; exact hq
    · split at hx
      · simp at hx; subst hx; exact hp
      · simp at hx
  have t4 : ∀ p q, (tof p q).length ≤ 1 := fun p q => by simp only [tof]; split <;> (try split) <;> simp
  have hT : ∀ p ∈ tof p1 q1 ++ tof p2 q2, Ty2 2 p := fun p hp => (List.mem_append.1 hp).elim (t3 _ _ h1 k1 p) (t3 _ _ h2 k2 p)
  have cnd1 : ∀ p q, Ty2 2 p → (∀ x ∈ tof p q, x ∈ tof p1 q1 ++ tof p2 q2) → (p.kind = 1 → q ∈ tof p1 q1 ++ tof p2 q2 ∨ Ty2 1 q) ∧ (q.kind = 1 → p ∈ tof p1 q1 ++ tof p2 q2 ∨ Ty2 1 p) := fun p q hp hs => by
    refine ⟨fun h => .inl (hs q (t1 p q h)), fun h => ?_⟩
    by_cases hk : p.kind = 1
    · refine .inr ?_
      rw [ty_var hp hk]
      exact .var _
    · exact .inl (hs p (t2 p q h hk))
  have C := schCtl (V := V) (T := tof p1 q1 ++ tof p2 q2) hV hT (by have := t4 p1 q1; have := t4 p2 q2; rw [List.length_append]; omega)
  have c1 := cnd1 p1 q1 h1 (fun x hx => List.mem_append.2 (.inl hx))
  have c2 := cnd1 p2 q2 h2 (fun x hx => List.mem_append.2 (.inr hx))
  refine Res.weak (resC C (as_ := [p1, p2]) (bs := [q1, q2]) (fun v hv => by simp [dom] at hv) n rfl ⟨⟨⟨g1, e1⟩, p1, q1, h1, k1, c1.1, c1.2, rfl, rfl⟩, fun l' _ _ _ => ⟨⟨⟨g2, e2⟩, p2, q2, h2, k2, c2.1, c2.2, rfl, rfl⟩, fun _ _ _ _ => trivial⟩⟩ ?_) (fun h : False => h.elim)
  have s1 := h1.sz
  have s2 := h2.sz
  have s3 : V.length * 4001 ≤ 4 * 4001 := Nat.mul_le_mul_right _ hV
  simp only [tnds]
  omega
/-- A pair of which one is a variable, or that differs at its head, or that is equal. -/
theorem root_flat (hV : V.length ≤ 4) (n : Nat) (hn : 20000 ≤ n) {a b : TType} (ga : Good V a) (gb : Good V b) (hs : tnd a + tnd b ≤ 3000) (h : a.kind ≠ 1 → b.kind ≠ 1 → a.kind = b.kind → a.name = b.name → a.args.length = b.args.length → a = b) : Res n [a] [b] False := by
  have C : Ctl False V (fun _ => True) (fun l c d => l = [] ∧ c = a ∧ d = b) := by
    refine ⟨by omega, fun h => by obtain ⟨_, rfl, rfl⟩ := h; exact ⟨ga, gb⟩, fun _ _ h => ?_, fun _ _ h => ?_, fun _ _ _ _ _ _ _ _ _ => trivial, fun _ _ _ _ _ _ _ _ _ _ => trivial, fun _ _ hP hx hy hne _ kx ky f1 f2 f3 => ?_⟩
    · obtain ⟨rfl, rfl, rfl⟩ := h
      rw [out_nil, out_nil]
      exact ⟨by omega, by omega⟩
    · obtain ⟨rfl, rfl, rfl⟩ := h
      rw [out_nil, out_nil]
      exact .inr (by omega)
    · obtain ⟨rfl, rfl, rfl⟩ := hP
      rw [out_nil] at hx hy
      subst hx; subst hy
      exact absurd (h kx ky f1 f2 f3) hne
  refine Res.weak (resC C (as_ := [a]) (bs := [b]) trivial n rfl ⟨⟨rfl, rfl, rfl⟩, fun _ _ _ _ => trivial⟩ ?_) (fun h : False => h.elim)
  have s3 : V.length * 4001 ≤ 4 * 4001 := Nat.mul_le_mul_right _ hV
  simp only [tnds]
  omega
/-- One step down. -/
theorem unroll (n : Nat) {a b : TType} (ga : Good V a) (gb : Good V b) (ka : a.kind ≠ 1) (kb : b.kind ≠ 1) (f1 : a.kind = b.kind) (f2 : a.name = b.name) (f3 : a.args.length = b.args.length) (hs : tnd a + tnd b ≤ 4000) (h : Res n a.args b.args False) : Res (n + 1) [a] [b] False := by
  obtain ⟨r, p, h1, h2, h3, h4, h5, _⟩ := h
  have hb : bok [] := fun b hb => by simp at hb
  have hbk : ([b] : List TType)[0]? = some b := rfl
  have hw := wsum (x := a) (y := b) (by omega) (by omega)
  have hI0 : m_iUnify (n + 1) [] [a] [b] = b_iUnify_l1 (m_iUnify n) [b] [a] 0 [] := by rw [m_iUnify.eq_2]; rfl
  have hS0 : m_sAll (2 * (n + 1)) [a] [b] [] = b_sAll_l1 (m_sUnify (2 * n + 1)) [b] [a] 0 [] := by rw [show 2 * (n + 1) = (2 * n + 1) + 1 by omega, m_sAll.eq_2]; rfl
  have hI1 : b_iUnify_l1 (m_iUnify n) [b] [a] 0 [] = cnd (teq a b) (some (true, [])) (bnd (m_iUnify n [] a.args b.args) fun x => cnd (!x.1) (some (false, [])) (some (true, x.2))) := by
    rw [b_iUnify_l1.eq_2, show ((0 : Nat) : Int) = ((0 : Nat) : Int) from rfl, at_nat, hbk]
    simp only [bnd, lt_]
    rw [gd_eq ⟨hb, ga.ok⟩, gd_eq ⟨hb, gb.ok⟩, out_nil, out_nil, hw, decide_eq_false (by omega)]
    simp only [cnd_false, beq_false_of_ne ka, beq_false_of_ne kb, show (a.kind != 1) = true by simp [ka], cnd_true, show (a.kind != b.kind) = false by simp [f1], show (!(a.name == b.name)) = false by simp [f2], show ((a.args.length : Int) != (b.args.length : Int)) = false by simp [f3]]
    rfl
  have hS1 : b_sAll_l1 (m_sUnify (2 * n + 1)) [b] [a] 0 [] = bnd (cnd (teq a b) (some ([], true)) (m_sAll (2 * n) a.args b.args [])) fun x => cnd (!x.2) (some ([], false)) (some (x.1, true)) := by
    have hU : m_sUnify (2 * n + 1) a b [] = cnd (teq a b) (some ([], true)) (m_sAll (2 * n) a.args b.args []) := by
      rw [m_sUnify.eq_2]
      unfold b_sUnify
      simp only [lt_]
      rw [gd_eq ⟨hb, ga.ok⟩, gd_eq ⟨hb, gb.ok⟩, out_nil, out_nil, hw, decide_eq_false (by omega)]
      simp only [cnd_false, beq_false_of_ne ka, beq_false_of_ne kb, show (a.kind != b.kind) = false by simp [f1], show (!(a.name == b.name)) = false by simp [f2], show ((a.args.length : Int) != (b.args.length : Int)) = false by simp [f3]]
      cases teq a b with
      | true => rfl
      | false =>
        simp only [cnd_false]
        cases m_sAll (2 * n) a.args b.args [] <;> rfl
    rw [b_sAll_l1.eq_2, at_nat, hbk]
    show bnd (m_sUnify (2 * n + 1) a b []) _ = _
    rw [hU]
    rfl
  cases ht : teq a b with
  | true =>
    have e := (teq_iff a b).1 ht
    refine ⟨some [], ([], true), by rw [hI0, hI1, ht]; rfl, by rw [hS0, hS1, ht]; rfl, rfl, fun l' h => ?_, fun _ _ _ _ h => (by cases h), fun h => h.elim⟩
    cases h
    exact ⟨hb, by simp, by rw [e]⟩
  | false =>
    refine ⟨r, (match r with | none => ([], false) | some l => (l, true)), ?_, ?_, ?_, fun l' h => ?_, fun i1 i2 q hq => ?_, fun h => h.elim⟩
    · rw [hI0, hI1, ht, cnd_false, h1]
      cases r <;> rfl
    · rw [hS0, hS1, ht, cnd_false, h2]
      cases r with
      | none =>
        have e : p.2 = false := h3
        simp only [bnd, e]
        rfl
      | some l =>
        have e : p = (l, true) := h3
        subst e
        rfl
    · cases r <;> rfl
    · obtain ⟨w1, w2, w3⟩ := h4 l' h
      refine ⟨w1, w2, ?_⟩
      simp only [apTs]
      rw [apTs_args (l := []) f1 f2 ka w3]
    · simp only [tnas] at i1 i2
      simp only [apTs, List.cons.injEq] at hq
      obtain ⟨_, _, e3⟩ := parts_eq ka kb hq.1
      exact h5 (tna_args i1.1) (tna_args i2.1) q e3
theorem Fr.parts {t : TType} (h : Fr 3 t) (hk : t.kind ≠ 1) : t.args = [] ∨ (∃ c, t.args = [c] ∧ Fr 3 c) ∨ ∃ c d, t.args = [c, d] ∧ Ty2 2 c ∧ Ty2 2 d := by
  cases h with
  | ty h =>
    cases h with
    | var v => exact absurd rfl hk
    | con0 s => exact .inl rfl
    | con1 s h => exact .inr (.inl ⟨_, rfl, .ty (h.mono (by omega))⟩)
    | con2 s h h2 => exact .inr (.inr ⟨_, _, rfl, h, h2⟩)
  | proj s h => exact .inr (.inl ⟨_, rfl, .ty h⟩)
  | lproj s r h => exact .inr (.inl ⟨_, rfl, .proj s h⟩)
  | dyn s => exact .inl rfl
theorem root (hV : V.length ≤ 4) : ∀ (k : Nat) {a b : TType}, tnd a ≤ k → Fr 3 a → Fr 3 b → Good V a → Good V b → tnd a + tnd b ≤ 3000 → Res (20000 + k) [a] [b] False
  | 0, a, b, h, _, _, _, _, _ => by have := tnd_pos a; omega
  | k + 1, a, b, h, ha, hb, ga, gb, hs => by
    by_cases hflat : a.kind ≠ 1 ∧ b.kind ≠ 1 ∧ a.kind = b.kind ∧ a.name = b.name ∧ a.args.length = b.args.length
    · obtain ⟨ka, kb, f1, f2, f3⟩ := hflat
      obtain ⟨g1, n1, _⟩ := args_good (V := V) ga.sz ga.ok ga.vs
      obtain ⟨g2, n2, _⟩ := args_good (V := V) gb.sz gb.ok gb.vs
      rcases ha.parts ka with e | ⟨c, e, hc⟩ | ⟨c, d, e, hc, hd⟩
      · refine root_flat hV _ (by omega) ga gb hs (fun _ _ _ _ _ => ?_)
        obtain ⟨k1, m1, t1⟩ := a
        obtain ⟨k2, m2, t2⟩ := b
        simp only at e f1 f2 f3
        subst e
        have : t2 = [] := List.length_eq_zero_iff.1 (by simpa using f3.symm)
        subst this
        rw [f1, f2]
      · rcases hb.parts kb with e' | ⟨c', e', hc'⟩ | ⟨c', d', e', _, _⟩
        · rw [e, e'] at f3; simp at f3
        · refine unroll (20000 + k) ga gb ka kb f1 f2 f3 (by omega) ?_
          rw [e, e']
          rw [e] at g1 n1
          rw [e'] at g2 n2
          simp only [tnds] at n1 n2
          exact root hV k (by omega) hc hc' (g1 c (by simp)) (g2 c' (by simp)) (by omega)
        · rw [e, e'] at f3; simp at f3
      · rcases hb.parts kb with e' | ⟨c', e', hc'⟩ | ⟨c', d', e', hc', hd'⟩
        · rw [e, e'] at f3; simp at f3
        · rw [e, e'] at f3; simp at f3
        · refine unroll (20000 + k) ga gb ka kb f1 f2 f3 (by omega) ?_
          rw [e, e']
          rw [e] at g1
          rw [e'] at g2
          exact root_two hV _ (by omega) hc hd hc' hd' (g1 c (by simp)) (g1 d (by simp)) (g2 c' (by simp)) (g2 d' (by simp))
    · exact root_flat hV _ (by omega) ga gb hs (fun h1 h2 h3 h4 h5 => absurd ⟨h1, h2, h3, h4, h5⟩ hflat)
end
end Go.Proofs.Ytiaghdodeinecaa
set_option linter.unusedVariables false
set_option linter.unusedSimpArgs false
set_option linter.unusedSectionVars false
namespace Go.Proofs.Ytiaghdodeinecaa
open Go Go.Eng
attribute [local irreducible] V VO VQ VY Quiet QR SpecP SpecO Rng PostP PostO PostG
def b_IndexS_l1 (a1 : List UInt8) : List (List UInt8) → Nat → Int
  | [], y1 => (-1)
  | x4 :: xs, y1 => (cnd (a1 == x4) (
(y1 : Int)) (
b_IndexS_l1 a1 xs (y1 + 1)))
def b_IndexS (a0 : List (List UInt8)) (a1 : List UInt8) : Int :=
b_IndexS_l1 a1 a0 0
set_option maxHeartbeats 4000000 in
theorem w_IndexS (a0 : List (List UInt8)) (a1 : List UInt8) : SpecP Try.prog 68 [.d (.sl 1 (eStrs a0)), .d (.s a1)] [.i .i64 (b_IndexS a0 a1)] := by
  obtain ⟨r, h⟩ : ∃ r, b_IndexS a0 a1 = r := ⟨_, rfl⟩
  rw [h]
  unfold b_IndexS at h
  refine SpecP_intro Try.func68 rfl (by kernel_rfl) rfl fun A _ => ?_
  refine goL ?_
  refine V_block ?_
  show V _ _ _ _ _
  refine V_bd 0 (fun z2 => ?_)
  refine V_loop1 (fun (y1 : Nat) => ⟨[(0, .d (.sl 1 (eStrs a0))), (1, .d (.s a1)), (7, .d (.i .i64 (a0.length : Int))), (8, .d (.i .i64 (y1 : Int)))], [], Try.f68.ntmps⟩) (fun y1 => b_IndexS_l1 a1 (a0.drop y1) y1 = r) (fun y1 => a0.length - y1) 0 ⟨rfl, ⟨⟨rfl, rfl⟩, ⟨rfl, rfl⟩, ⟨rfl, rfl⟩, ⟨rfl, rfl⟩, trivial⟩, ⟨[], rfl⟩, rfl⟩ h ?_
  rintro y1 h
  refine goL ?_
  refine V_seq (V_cb (fun c3 => ?_) (fun c3 => ?_))
  · have hky12 := kltN c3
    obtain ⟨x4, hx4, hdx4⟩ := drop_at hky12
    rw [hdx4, b_IndexS_l1.eq_2] at h
    refine V_skip ?_
    show V _ _ _ _ _
    refine V_seq (V_block ?_)
    refine goL ?_
    refine VO_r (QR_ixn y1 (gStr hx4)) ?_
    refine goL ?_
    refine V_cb (fun c5 => ?_) (fun c5 => ?_)
    · replace h := cnd_t c5 h
      refine goL ?_
      refine V_ret ?_
      subst h
      exact R_rP
    · replace h := cnd_f c5 h
      refine V_skip ?_
      show V _ _ _ _ _
      refine goL ?_
      refine VO_r (QR_inc y1 (by omega)) ?_
      refine goL ?_
      exact ⟨(y1 + 1), h, by omega, ⟨rfl, ⟨⟨rfl, rfl⟩, ⟨rfl, rfl⟩, ⟨rfl, rfl⟩, ⟨rfl, rfl⟩, trivial⟩, ⟨_, rfl⟩, rfl⟩⟩
  · have hky12 := kgeN c3
    rw [drop_end hky12, b_IndexS_l1.eq_1] at h
    refine V_exit ?_
    show V _ _ _ _ _
    refine goL ?_
    refine V_ret ?_
    subst h
    exact R_rP
def b_ContainsS (a0 : List (List UInt8)) (a1 : List UInt8) : Bool :=
(decide ((b_IndexS a0 a1) ≥ 0))
set_option maxHeartbeats 4000000 in
theorem w_ContainsS (a0 : List (List UInt8)) (a1 : List UInt8) : SpecP Try.prog 49 [.d (.sl 1 (eStrs a0)), .d (.s a1)] [.b (b_ContainsS a0 a1)] := by
  obtain ⟨r, h⟩ : ∃ r, b_ContainsS a0 a1 = r := ⟨_, rfl⟩
  rw [h]
  unfold b_ContainsS at h
  refine SpecP_intro Try.func49 rfl (by kernel_rfl) rfl fun A _ => ?_
  refine goL ?_
  refine VO_r (QR_call (w_IndexS a0 a1)) ?_
  refine goL ?_
  refine V_ret ?_
  subst h
  exact R_rP
def b_varsOf1 (u : TType) (l1 : List (List UInt8)) : Option (List (List UInt8)) :=
lt_ ((cnd (u.kind == 1) ((!(b_ContainsS l1 u.name))) (false))) fun b1 =>
(cnd b1 (
gd (l1.length + [u.name].length ≤ 4294967296) (
(some (l1 ++ [u.name])))) (
(some l1)))
set_option maxHeartbeats 4000000 in
theorem w_varsOf1 (u : TType) (l1 : List (List UInt8)) (v1 : Nat) {r : List (List UInt8)} (h : b_varsOf1 u l1 = some r) : Go.Eng.Spec Try.prog 67 [.d (eType u), .ptr 0 0] [.box [.sl 1 v1], .own 9 1 v1 (eStrs l1)] (fun sv Lo => ∃ v'1, sv = .tup [] ∧ Lo = [.box [.sl 1 v'1], .own 9 1 v'1 (eStrs r)]) := by
  obtain ⟨u_0, u_1, u_2⟩ := u
  unfold b_varsOf1 at h
  refine Spec_intro 2 Try.func67 rfl (by kernel_rfl) rfl rfl fun A _ => ?_
  refine goL ?_
  obtain ⟨b1, hb1, h⟩ := lt_x h
  refine VO_join ⟨[(1, .ptr 0 0), (2, .ptr 2 0), (12, .d (.b b1))], [.box [.sl 1 v1], .own 9 1 v1 (eStrs l1), .box [.d (.i .i64 u_0), .d (.s u_1), .d (.sl 3 (eTypes u_2))]], Try.f67.ntmps⟩ ?_ ?_
  · refine VO_case 6 (fun c2 => ?_) (fun c2 => ?_)
    · replace hb1 := cnd_t c2 hb1
      refine goL ?_
      refine VO_b ?_
      refine VO_k (Q_cb (w_ContainsS l1 u_1)) ?_
      refine goL ?_
      cases hb1
      exact ⟨rfl, ⟨⟨rfl, rfl⟩, ⟨rfl, rfl⟩, ⟨rfl, rfl⟩, trivial⟩, ⟨[], rfl⟩, rfl⟩
    · replace hb1 := cnd_f c2 hb1
      refine goL ?_
      cases hb1
      exact ⟨rfl, ⟨⟨rfl, rfl⟩, ⟨rfl, rfl⟩, ⟨rfl, rfl⟩, trivial⟩, ⟨[], rfl⟩, rfl⟩
  refine goL ?_
  refine V_cb (fun c3 => ?_) (fun c3 => ?_)
  · replace h := cnd_t c3 h
    refine goL ?_
    refine VO_l1t u_1 ?_
    obtain ⟨g4, h⟩ := gd_s h
    refine VO_ap g4 ?_
    refine goL ?_
    replace h := Option.some.inj h
    subst h
    exact N_rH [] [.box [.sl 1 (v1 + 1)], .own 9 1 (v1 + 1) (eStrs (l1 ++ [u_1]))] ⟨(v1 + 1), rfl, rfl⟩
  · replace h := cnd_f c3 h
    refine V_skip ?_
    show PostG _ _ _ _ _ _
    replace h := Option.some.inj h
    subst h
    exact N_rH [] [.box [.sl 1 v1], .own 9 1 v1 (eStrs l1)] ⟨v1, rfl, rfl⟩
def b_eachVars_l1 (rec_eachVars : TType → (List (List UInt8)) → Option (List (List UInt8))) : List TType → (List (List UInt8)) → Option (List (List UInt8))
  | [], y3 => (some y3)
  | x8 :: xs, y3 => bnd (rec_eachVars x8 y3) fun x9 =>
b_eachVars_l1 rec_eachVars xs x9
def b_eachVars (rec_eachVars : TType → (List (List UInt8)) → Option (List (List UInt8))) (u : TType) (l1 : List (List UInt8)) : Option (List (List UInt8)) :=
bnd (b_varsOf1 u l1) fun x1 =>
b_eachVars_l1 rec_eachVars u.args x1
set_option maxHeartbeats 4000000 in
theorem w_eachVars {rec_eachVars : TType → (List (List UInt8)) → Option (List (List UInt8))} (hrec_eachVars : ∀ (x0 : TType) (x1 : List (List UInt8)) (w0 : Nat) {r : List (List UInt8)}, rec_eachVars x0 x1 = some r → Go.Eng.Spec Try.prog 66 [.d (eType x0), .fn 67 [.ptr 0 0]] [.box [.sl 1 w0], .own 9 1 w0 (eStrs x1)] (fun sv Lo => ∃ v'1, sv = .tup [] ∧ Lo = [.box [.sl 1 v'1], .own 9 1 v'1 (eStrs r)])) (u : TType) (l1 : List (List UInt8)) (v1 : Nat) {r : List (List UInt8)} (h : b_eachVars rec_eachVars u l1 = some r) : Go.Eng.Spec Try.prog 66 [.d (eType u), .fn 67 [.ptr 0 0]] [.box [.sl 1 v1], .own 9 1 v1 (eStrs l1)] (fun sv Lo => ∃ v'1, sv = .tup [] ∧ Lo = [.box [.sl 1 v'1], .own 9 1 v'1 (eStrs r)]) := by
  obtain ⟨u_0, u_1, u_2⟩ := u
  unfold b_eachVars at h
  refine Spec_intro 2 Try.func66 rfl (by kernel_rfl) rfl rfl fun A _ => ?_
  refine goL ?_
  obtain ⟨x1, hx1, h⟩ := bnd_s h
  refine VO_cG [0, 1] (w_varsOf1 (TType.mk u_0 u_1 u_2) l1 v1 hx1) ?_
  rintro _ _ ⟨v2, rfl, rfl⟩
  show VO _ _ _ _ ⟨(_, .tup []) :: _, [.box [.sl 1 v2], .own 9 1 v2 (eStrs x1), .box [.d (.i .i64 u_0), .d (.s u_1), .d (.sl 3 (eTypes u_2))]], _⟩ _
  refine goL ?_
  refine V_block ?_
  show V _ _ _ _ _
  refine V_bd 10 (fun z6 => ?_)
  refine V_loop3 (fun (y5 : Nat) (y3 : List (List UInt8)) (v4 : Nat) => ⟨[(1, .fn 67 [.ptr 0 0]), (10, .d (.sl 3 (eTypes u_2))), (11, .d (.i .i64 (u_2.length : Int))), (12, .d (.i .i64 (y5 : Int)))], [.box [.sl 1 v4], .own 9 1 v4 (eStrs y3), .box [.d (.i .i64 u_0), .d (.s u_1), .d (.sl 3 (eTypes u_2))]], Try.f66.ntmps⟩) (fun y5 y3 v4 => b_eachVars_l1 rec_eachVars (u_2.drop y5) y3 = some r) (fun y5 y3 v4 => u_2.length - y5) 0 x1 v2 ⟨rfl, ⟨⟨rfl, rfl⟩, ⟨rfl, rfl⟩, ⟨rfl, rfl⟩, ⟨rfl, rfl⟩, trivial⟩, ⟨[], rfl⟩, rfl⟩ h ?_
  rintro y5 y3 v4 h
  refine goL ?_
  refine V_seq (V_cb (fun c7 => ?_) (fun c7 => ?_))
  · have hky52 := kltN c7
    obtain ⟨x8, hx8, hdx8⟩ := drop_at hky52
    rw [hdx8, b_eachVars_l1.eq_2] at h
    obtain ⟨x8_0, x8_1, x8_2⟩ := x8
    refine V_skip ?_
    show V _ _ _ _ _
    refine V_seq (V_block ?_)
    refine goL ?_
    refine VO_r (QR_ixn y5 (gType hx8)) ?_
    refine goL ?_
    obtain ⟨x9, hx9, h⟩ := bnd_s h
    refine VO_cG [0, 1] (hrec_eachVars (TType.mk x8_0 x8_1 x8_2) y3 v4 hx9) ?_
    rintro _ _ ⟨v10, rfl, rfl⟩
    show VO _ _ _ _ ⟨(_, .tup []) :: _, [.box [.sl 1 v10], .own 9 1 v10 (eStrs x9), .box [.d (.i .i64 u_0), .d (.s u_1), .d (.sl 3 (eTypes u_2))], .box [.d (.i .i64 x8_0), .d (.s x8_1), .d (.sl 3 (eTypes x8_2))]], _⟩ _
    refine goL ?_
    refine VO_r (QR_inc y5 (by omega)) ?_
    refine goL ?_
    exact ⟨(y5 + 1), x9, v10, h, by omega, ⟨rfl, ⟨⟨rfl, rfl⟩, ⟨rfl, rfl⟩, ⟨rfl, rfl⟩, ⟨rfl, rfl⟩, trivial⟩, ⟨_, rfl⟩, rfl⟩⟩
  · have hky52 := kgeN c7
    rw [drop_end hky52, b_eachVars_l1.eq_1] at h
    refine V_exit ?_
    show PostG _ _ _ _ _ _
    replace h := Option.some.inj h
    subst h
    exact N_rH [] [.box [.sl 1 v4], .own 9 1 v4 (eStrs y3)] ⟨v4, rfl, rfl⟩
def m_eachVars : Nat → TType → (List (List UInt8)) → Option (List (List UInt8))
  | 0, _, _ => none
  | n + 1, x0, x1 => b_eachVars (m_eachVars n) x0 x1
theorem s_eachVars : ∀ (n : Nat) (x0 : TType) (x1 : List (List UInt8)) (w0 : Nat) {r : List (List UInt8)}, m_eachVars n x0 x1 = some r → Go.Eng.Spec Try.prog 66 [.d (eType x0), .fn 67 [.ptr 0 0]] [.box [.sl 1 w0], .own 9 1 w0 (eStrs x1)] (fun sv Lo => ∃ v'1, sv = .tup [] ∧ Lo = [.box [.sl 1 v'1], .own 9 1 v'1 (eStrs r)]) := by
  intro n
  induction n with
  | zero => intro x0 x1 w0 r h; cases h
  | succ n ih => intro x0 x1 w0 r h; exact w_eachVars ih x0 x1 w0 h
/-! ### the variables of a type, by hand -/
def addVar (k : Int) (n : List UInt8) (l : List (List UInt8)) : List (List UInt8) := if k = 1 ∧ n ∉ l then l ++ [n] else l
mutual
def varsT : TType → List (List UInt8) → List (List UInt8)
  | ⟨k, n, ts⟩, l => varsTs ts (addVar k n l)
def varsTs : List TType → List (List UInt8) → List (List UInt8)
  | [], l => l
  | a :: ts, l => varsTs ts (varsT a l)
end
theorem addVar_len (k : Int) (n : List UInt8) (l : List (List UInt8)) : (addVar k n l).length ≤ l.length + 1 := by
  unfold addVar
  split
  · simp
  · omega
mutual
theorem varsT_len : ∀ (t : TType) (l : List (List UInt8)), (varsT t l).length ≤ l.length + tnd t
  | ⟨k, n, ts⟩, l => by
    simp only [varsT, tnd]
    have h1 := varsTs_len ts (addVar k n l)
    have h2 := addVar_len k n l
    omega
theorem varsTs_len : ∀ (ts : List TType) (l : List (List UInt8)), (varsTs ts l).length ≤ l.length + tnds ts
  | [], l => by simp [varsTs]
  | a :: ts, l => by
    simp only [varsTs, tnds]
    have h1 := varsTs_len ts (varsT a l)
    have h2 := varsT_len a l
    omega
end
theorem IndexS_pos (a : List UInt8) : ∀ (l : List (List UInt8)) (k : Nat), 0 ≤ b_IndexS_l1 a l k ↔ a ∈ l
  | [], k => by simp [b_IndexS_l1]
  | x :: l, k => by
    by_cases h : a = x
    · subst h
      simp [b_IndexS_l1, cnd]
    · have h1 : (a == x) = false := by simpa using h
      have h2 : b_IndexS_l1 a (x :: l) k = b_IndexS_l1 a l (k + 1) := by simp [b_IndexS_l1, h1, cnd]
      rw [h2, IndexS_pos a l (k + 1)]
      simp [h]
theorem ContainsS_eq (l : List (List UInt8)) (a : List UInt8) : b_ContainsS l a = decide (a ∈ l) := by
  unfold b_ContainsS b_IndexS
  exact decide_eq_decide.2 (IndexS_pos a l 0)
theorem varsOf1_eq (u : TType) (l : List (List UInt8)) (h : l.length + 1 ≤ 4294967296) : b_varsOf1 u l = some (addVar u.kind u.name l) := by
  unfold b_varsOf1 lt_ addVar
  rw [ContainsS_eq]
  by_cases h1 : u.kind = 1
  · by_cases h2 : u.name ∈ l
    · simp [h1, h2, cnd]
    · simp only [h1, h2, decide_false, Bool.not_false, beq_self_eq_true, cnd_true, not_false_eq_true, and_self, if_true]
      rw [gd_eq (by simpa using h)]
  · have : (u.kind == 1) = false := by simpa using h1
    simp [this, h1, cnd]
theorem eachVars_l1_eq {n : Nat} (ih : ∀ (t : TType) (l : List (List UInt8)), tnd t ≤ n → l.length + tnd t ≤ 4294967296 → m_eachVars n t l = some (varsT t l)) :
    ∀ (xs : List TType) (l : List (List UInt8)), tnds xs ≤ n → l.length + tnds xs ≤ 4294967296 → b_eachVars_l1 (m_eachVars n) xs l = some (varsTs xs l)
  | [], l, _, _ => by simp [b_eachVars_l1, varsTs]
  | x :: xs, l, h1, h2 => by
    simp only [tnds] at h1 h2
    simp only [b_eachVars_l1, varsTs]
    rw [ih x l (by omega) (by omega)]
    have := varsT_len x l
    exact eachVars_l1_eq ih xs _ (by omega) (by omega)
theorem eachVars_eq : ∀ (n : Nat) (t : TType) (l : List (List UInt8)), tnd t ≤ n → l.length + tnd t ≤ 4294967296 → m_eachVars n t l = some (varsT t l)
  | 0, ⟨k, nm, ts⟩, l, h, _ => by simp only [tnd] at h; omega
  | n + 1, ⟨k, nm, ts⟩, l, h1, h2 => by
    simp only [tnd] at h1 h2
    simp only [m_eachVars, b_eachVars, varsT]
    rw [varsOf1_eq _ _ (by omega)]
    have := addVar_len k nm l
    exact eachVars_l1_eq (eachVars_eq n) ts (addVar k nm l) (by omega) (by omega)
theorem t_eachVars (x0 : TType) (x1 : List (List UInt8)) (w0 : Nat) (h : x1.length + tnd x0 ≤ 4294967296) : Go.Eng.Spec Try.prog 66 [.d (eType x0), .fn 67 [.ptr 0 0]] [.box [.sl 1 w0], .own 9 1 w0 (eStrs x1)] (fun sv Lo => ∃ v'1, sv = .tup [] ∧ Lo = [.box [.sl 1 v'1], .own 9 1 v'1 (eStrs (varsT x0 x1))]) := s_eachVars (tnd x0) x0 x1 w0 (eachVars_eq _ _ _ (Nat.le_refl _) h)
def b_variablesOf_l1 : List TType → (List (List UInt8)) → Option (List (List UInt8))
  | [], y1 => (some y1)
  | x6 :: xs, y1 => gd (y1.length + tnd x6 ≤ 4294967296) (lt_ (varsT x6 y1) fun x7 =>
b_variablesOf_l1 xs x7)
def b_variablesOf (a0 : List TType) : Option (List (List UInt8)) :=
b_variablesOf_l1 a0 []
set_option maxHeartbeats 4000000 in
theorem w_variablesOf (a0 : List TType) {r : List (List UInt8)} (h : b_variablesOf a0 = some r) : SpecP Try.prog 48 [.d (.sl 3 (eTypes a0))] [.sl 1 (eStrs r)] := by
  unfold b_variablesOf at h
  refine SpecP_intro Try.func48 rfl (by kernel_rfl) rfl fun A _ => ?_
  refine goL ?_
  refine VO_l0 ?_
  refine goL ?_
  refine V_block ?_
  show V _ _ _ _ _
  refine V_bd 7 (fun z4 => ?_)
  refine V_loop3 (fun (y3 : Nat) (y1 : List (List UInt8)) (v2 : Nat) => ⟨[(3, .ptr 1 0), (7, .d (.sl 3 (eTypes a0))), (8, .d (.i .i64 (a0.length : Int))), (9, .d (.i .i64 (y3 : Int)))], [.own 9 1 v2 (eStrs y1), .box [.sl 0 v2]], Try.f48.ntmps⟩) (fun y3 y1 v2 => b_variablesOf_l1 (a0.drop y3) y1 = some r) (fun y3 y1 v2 => a0.length - y3) 0 [] 0 ⟨rfl, ⟨⟨rfl, rfl⟩, ⟨rfl, rfl⟩, ⟨rfl, rfl⟩, ⟨rfl, rfl⟩, trivial⟩, ⟨[], rfl⟩, rfl⟩ h ?_
  rintro y3 y1 v2 h
  refine goL ?_
  refine V_seq (V_cb (fun c5 => ?_) (fun c5 => ?_))
  · have hky32 := kltN c5
    obtain ⟨x6, hx6, hdx6⟩ := drop_at hky32
    rw [hdx6, b_variablesOf_l1.eq_2] at h
    obtain ⟨x6_0, x6_1, x6_2⟩ := x6
    refine V_skip ?_
    show V _ _ _ _ _
    refine V_seq (V_block ?_)
    refine goL ?_
    refine VO_r (QR_ixn y3 (gType hx6)) ?_
    refine goL ?_
    refine VO_r (QR_fn) ?_
    obtain ⟨g8, h⟩ := gd_s h
    obtain ⟨x7, hx7, h⟩ := lt_x h
    have sx7 := t_eachVars (TType.mk x6_0 x6_1 x6_2) y1 v2 g8
    rw [hx7] at sx7
    refine VO_cG [1, 0] (sx7) ?_
    rintro _ _ ⟨v9, rfl, rfl⟩
    show VO _ _ _ _ ⟨(_, .tup []) :: _, [.own 9 1 v9 (eStrs x7), .box [.sl 0 v9], .box [.d (.i .i64 x6_0), .d (.s x6_1), .d (.sl 3 (eTypes x6_2))]], _⟩ _
    refine goL ?_
    refine VO_r (QR_inc y3 (by omega)) ?_
    refine goL ?_
    exact ⟨(y3 + 1), x7, v9, h, by omega, ⟨rfl, ⟨⟨rfl, rfl⟩, ⟨rfl, rfl⟩, ⟨rfl, rfl⟩, ⟨rfl, rfl⟩, trivial⟩, ⟨_, rfl⟩, rfl⟩⟩
  · have hky32 := kgeN c5
    rw [drop_end hky32, b_variablesOf_l1.eq_1] at h
    refine V_exit ?_
    show V _ _ _ _ _
    refine goL ?_
    refine V_freezeO 0 rfl rfl ?_
    refine V_ret ?_
    replace h := Option.some.inj h
    subst h
    exact R_rP
end Go.Proofs.Ytiaghdodeinecaa
set_option linter.unusedVariables false
set_option linter.unusedSimpArgs false
set_option linter.unusedSectionVars false
namespace Go.Proofs.Ytiaghdodeinecaa
open Go Go.Eng
attribute [local irreducible] V VO VQ VY Quiet QR SpecP SpecO Rng PostP PostO PostG
def b_l1Has_l1 (a1 : List UInt8) : List (List UInt8) → Bool
  | [] => false
  | x4 :: xs => (cnd (x4 == a1) (
true) (
b_l1Has_l1 a1 xs ))
def b_l1Has (a0 : List (List UInt8)) (a1 : List UInt8) : Bool :=
b_l1Has_l1 a1 a0 
set_option maxHeartbeats 4000000 in
theorem w_l1Has (a0 : List (List UInt8)) (a1 : List UInt8) : SpecP Try.prog 53 [.d (.sl 1 (eStrs a0)), .d (.s a1)] [.b (b_l1Has a0 a1)] := by
  obtain ⟨r, h⟩ : ∃ r, b_l1Has a0 a1 = r := ⟨_, rfl⟩
  rw [h]
  unfold b_l1Has at h
  refine SpecP_intro Try.func53 rfl (by kernel_rfl) rfl fun A _ => ?_
  refine goL ?_
  refine V_block ?_
  show V _ _ _ _ _
  refine V_bd 0 (fun z2 => ?_)
  refine V_loop1 (fun (y1 : Nat) => ⟨[(0, .d (.sl 1 (eStrs a0))), (1, .d (.s a1)), (5, .d (.i .i64 (y1 : Int)))], [], Try.f53.ntmps⟩) (fun y1 => b_l1Has_l1 a1 (a0.drop y1)  = r) (fun y1 => a0.length - y1) 0 ⟨rfl, ⟨⟨rfl, rfl⟩, ⟨rfl, rfl⟩, ⟨rfl, rfl⟩, trivial⟩, ⟨[], rfl⟩, rfl⟩ h ?_
  rintro y1 h
  refine goL ?_
  refine V_cb (fun c3 => ?_) (fun c3 => ?_)
  · have hky12 := kltN c3
    obtain ⟨x4, hx4, hdx4⟩ := drop_at hky12
    rw [hdx4, b_l1Has_l1.eq_2] at h
    refine V_skip ?_
    show V _ _ _ _ _
    refine V_seq (V_block ?_)
    refine goL ?_
    refine VO_r (QR_ixn y1 (gStr hx4)) ?_
    refine goL ?_
    refine V_cb (fun c5 => ?_) (fun c5 => ?_)
    · replace h := cnd_t c5 h
      refine goL ?_
      refine V_ret ?_
      subst h
      exact R_rP
    · replace h := cnd_f c5 h
      refine V_skip ?_
      show V _ _ _ _ _
      refine goL ?_
      refine VO_r (QR_inc y1 (by omega)) ?_
      refine goL ?_
      exact ⟨(y1 + 1), h, by omega, ⟨rfl, ⟨⟨rfl, rfl⟩, ⟨rfl, rfl⟩, ⟨rfl, rfl⟩, trivial⟩, ⟨_, rfl⟩, rfl⟩⟩
  · have hky12 := kgeN c3
    rw [drop_end hky12, b_l1Has_l1.eq_1] at h
    refine V_exit ?_
    show V _ _ _ _ _
    refine goL ?_
    refine V_ret ?_
    subst h
    exact R_rP
def b_l4Vars_l1 (rec_l4Vars : TType → (List (List UInt8)) → Option (List (List UInt8))) : List TType → (List (List UInt8)) → Option (List (List UInt8))
  | [], y5 => (some y5)
  | x10 :: xs, y5 => bnd (rec_l4Vars x10 y5) fun x11 =>
b_l4Vars_l1 rec_l4Vars xs x11
def b_l4Vars_l2 (rec_l4Vars : TType → (List (List UInt8)) → Option (List (List UInt8))) : List TType → (List (List UInt8)) → Option (List (List UInt8))
  | [], y13 => (some y13)
  | x18 :: xs, y13 => bnd (rec_l4Vars x18 y13) fun x19 =>
b_l4Vars_l2 rec_l4Vars xs x19
def b_l4Vars (rec_l4Vars : TType → (List (List UInt8)) → Option (List (List UInt8))) (t : TType) (l0 : List (List UInt8)) : Option (List (List UInt8)) :=
lt_ ((cnd (t.kind == 1) ((!(b_l1Has l0 t.name))) (false))) fun b1 =>
(cnd b1 (
gd (l0.length + [t.name].length ≤ 4294967296) (
b_l4Vars_l1 rec_l4Vars t.args (l0 ++ [t.name]))) (
b_l4Vars_l2 rec_l4Vars t.args l0))
set_option maxHeartbeats 4000000 in
theorem w_l4Vars {rec_l4Vars : TType → (List (List UInt8)) → Option (List (List UInt8))} (hrec_l4Vars : ∀ (x0 : TType) (x1 : List (List UInt8)) (w0 : Nat) {r : List (List UInt8)}, rec_l4Vars x0 x1 = some r → Go.Eng.Spec Try.prog 54 [.d (eType x0), .sl 0 w0] [.own 9 1 w0 (eStrs x1)] (fun sv Lo => ∃ v'0, sv = .sl 0 v'0 ∧ Lo = [.own 9 1 v'0 (eStrs r)])) (t : TType) (l0 : List (List UInt8)) (v0 : Nat) {r : List (List UInt8)} (h : b_l4Vars rec_l4Vars t l0 = some r) : Go.Eng.Spec Try.prog 54 [.d (eType t), .sl 0 v0] [.own 9 1 v0 (eStrs l0)] (fun sv Lo => ∃ v'0, sv = .sl 0 v'0 ∧ Lo = [.own 9 1 v'0 (eStrs r)]) := by
  obtain ⟨t_0, t_1, t_2⟩ := t
  unfold b_l4Vars at h
  refine Spec_intro 1 Try.func54 rfl (by kernel_rfl) rfl rfl fun A _ => ?_
  refine goL ?_
  obtain ⟨b1, hb1, h⟩ := lt_x h
  refine VO_join ⟨[(1, .sl 0 v0), (2, .ptr 1 0), (15, .d (.b b1))], [.own 9 1 v0 (eStrs l0), .box [.d (.i .i64 t_0), .d (.s t_1), .d (.sl 3 (eTypes t_2))]], Try.f54.ntmps⟩ ?_ ?_
  · refine VO_case 9 (fun c2 => ?_) (fun c2 => ?_)
    · replace hb1 := cnd_t c2 hb1
      refine goL ?_
      refine VO_b ?_
      refine VO_k (Q_cb (w_l1Has l0 t_1)) ?_
      refine goL ?_
      cases hb1
      exact ⟨rfl, ⟨⟨rfl, rfl⟩, ⟨rfl, rfl⟩, ⟨rfl, rfl⟩, trivial⟩, ⟨[], rfl⟩, rfl⟩
    · replace hb1 := cnd_f c2 hb1
      refine goL ?_
      cases hb1
      exact ⟨rfl, ⟨⟨rfl, rfl⟩, ⟨rfl, rfl⟩, ⟨rfl, rfl⟩, trivial⟩, ⟨[], rfl⟩, rfl⟩
  refine goL ?_
  refine V_cb (fun c3 => ?_) (fun c3 => ?_)
  · replace h := cnd_t c3 h
    refine goL ?_
    refine VO_l1t t_1 ?_
    obtain ⟨g4, h⟩ := gd_s h
    refine VO_ap g4 ?_
    refine goL ?_
    refine V_block ?_
    show V _ _ _ _ _
    refine V_bdc 1 2 (fun z8 => ?_)
    refine V_loop3 (fun (y7 : Nat) (y5 : List (List UInt8)) (v6 : Nat) => ⟨[(1, .sl 0 v6), (2, .ptr 1 0), (5, .d (.i .i64 (y7 : Int)))], [.own 9 1 v6 (eStrs y5), .box [.d (.i .i64 t_0), .d (.s t_1), .d (.sl 3 (eTypes t_2))], .dead 1], Try.f54.ntmps⟩) (fun y7 y5 v6 => b_l4Vars_l1 rec_l4Vars (t_2.drop y7) y5 = some r) (fun y7 y5 v6 => t_2.length - y7) 0 (l0 ++ [t_1]) (v0 + 1) ⟨rfl, ⟨⟨rfl, rfl⟩, ⟨rfl, rfl⟩, ⟨rfl, rfl⟩, trivial⟩, ⟨[], rfl⟩, rfl⟩ h ?_
    rintro y7 y5 v6 h
    refine goL ?_
    refine V_cb (fun c9 => ?_) (fun c9 => ?_)
    · have hky72 := kltN c9
      obtain ⟨x10, hx10, hdx10⟩ := drop_at hky72
      rw [hdx10, b_l4Vars_l1.eq_2] at h
      obtain ⟨x10_0, x10_1, x10_2⟩ := x10
      refine V_skip ?_
      show V _ _ _ _ _
      refine V_seq (V_block ?_)
      refine goL ?_
      refine VO_r (QR_ixn y7 (gType hx10)) ?_
      refine goL ?_
      obtain ⟨x11, hx11, h⟩ := bnd_s h
      refine VO_cG [0] (hrec_l4Vars (TType.mk x10_0 x10_1 x10_2) y5 v6 hx11) ?_
      rintro _ _ ⟨v12, rfl, rfl⟩
      show VO _ _ _ _ ⟨(_, .sl 0 v12) :: _, [.own 9 1 v12 (eStrs x11), .box [.d (.i .i64 t_0), .d (.s t_1), .d (.sl 3 (eTypes t_2))], .dead 1], _⟩ _
      refine goL ?_
      refine VO_r (QR_inc y7 (by omega)) ?_
      refine goL ?_
      exact ⟨(y7 + 1), x11, v12, h, by omega, ⟨rfl, ⟨⟨rfl, rfl⟩, ⟨rfl, rfl⟩, ⟨rfl, rfl⟩, trivial⟩, ⟨_, rfl⟩, rfl⟩⟩
    · have hky72 := kgeN c9
      rw [drop_end hky72, b_l4Vars_l1.eq_1] at h
      refine V_exit ?_
      show V _ _ _ _ _
      refine goL ?_
      refine V_ret ?_
      replace h := Option.some.inj h
      subst h
      exact R_rH [.sl 0 v6] [.own 9 1 v6 (eStrs y5)] ⟨v6, rfl, rfl⟩
  · replace h := cnd_f c3 h
    refine V_skip ?_
    show V _ _ _ _ _
    refine goL ?_
    refine V_block ?_
    show V _ _ _ _ _
    refine V_bdc 1 2 (fun z16 => ?_)
    refine V_loop3 (fun (y15 : Nat) (y13 : List (List UInt8)) (v14 : Nat) => ⟨[(1, .sl 0 v14), (2, .ptr 1 0), (5, .d (.i .i64 (y15 : Int)))], [.own 9 1 v14 (eStrs y13), .box [.d (.i .i64 t_0), .d (.s t_1), .d (.sl 3 (eTypes t_2))]], Try.f54.ntmps⟩) (fun y15 y13 v14 => b_l4Vars_l2 rec_l4Vars (t_2.drop y15) y13 = some r) (fun y15 y13 v14 => t_2.length - y15) 0 l0 v0 ⟨rfl, ⟨⟨rfl, rfl⟩, ⟨rfl, rfl⟩, ⟨rfl, rfl⟩, trivial⟩, ⟨[], rfl⟩, rfl⟩ h ?_
    rintro y15 y13 v14 h
    refine goL ?_
    refine V_cb (fun c17 => ?_) (fun c17 => ?_)
    · have hky152 := kltN c17
      obtain ⟨x18, hx18, hdx18⟩ := drop_at hky152
      rw [hdx18, b_l4Vars_l2.eq_2] at h
      obtain ⟨x18_0, x18_1, x18_2⟩ := x18
      refine V_skip ?_
      show V _ _ _ _ _
      refine V_seq (V_block ?_)
      refine goL ?_
      refine VO_r (QR_ixn y15 (gType hx18)) ?_
      refine goL ?_
      obtain ⟨x19, hx19, h⟩ := bnd_s h
      refine VO_cG [0] (hrec_l4Vars (TType.mk x18_0 x18_1 x18_2) y13 v14 hx19) ?_
      rintro _ _ ⟨v20, rfl, rfl⟩
      show VO _ _ _ _ ⟨(_, .sl 0 v20) :: _, [.own 9 1 v20 (eStrs x19), .box [.d (.i .i64 t_0), .d (.s t_1), .d (.sl 3 (eTypes t_2))]], _⟩ _
      refine goL ?_
      refine VO_r (QR_inc y15 (by omega)) ?_
      refine goL ?_
      exact ⟨(y15 + 1), x19, v20, h, by omega, ⟨rfl, ⟨⟨rfl, rfl⟩, ⟨rfl, rfl⟩, ⟨rfl, rfl⟩, trivial⟩, ⟨_, rfl⟩, rfl⟩⟩
    · have hky152 := kgeN c17
      rw [drop_end hky152, b_l4Vars_l2.eq_1] at h
      refine V_exit ?_
      show V _ _ _ _ _
      refine goL ?_
      refine V_ret ?_
      replace h := Option.some.inj h
      subst h
      exact R_rH [.sl 0 v14] [.own 9 1 v14 (eStrs y13)] ⟨v14, rfl, rfl⟩
def m_l4Vars : Nat → TType → (List (List UInt8)) → Option (List (List UInt8))
  | 0, _, _ => none
  | n + 1, x0, x1 => b_l4Vars (m_l4Vars n) x0 x1
theorem s_l4Vars : ∀ (n : Nat) (x0 : TType) (x1 : List (List UInt8)) (w0 : Nat) {r : List (List UInt8)}, m_l4Vars n x0 x1 = some r → Go.Eng.Spec Try.prog 54 [.d (eType x0), .sl 0 w0] [.own 9 1 w0 (eStrs x1)] (fun sv Lo => ∃ v'0, sv = .sl 0 v'0 ∧ Lo = [.own 9 1 v'0 (eStrs r)]) := by
  intro n
  induction n with
  | zero => intro x0 x1 w0 r h; cases h
  | succ n ih => intro x0 x1 w0 r h; exact w_l4Vars ih x0 x1 w0 h
/-! ### the variables of a type, the reference's way -/
theorem l1Has_l1 (a : List UInt8) : ∀ l : List (List UInt8), b_l1Has_l1 a l = decide (a ∈ l)
  | [] => rfl
  | x :: l => by
    simp only [b_l1Has_l1, l1Has_l1 a l]
    by_cases h : x = a
    · subst h; simp [cnd_true]
    · rw [beq_false_of_ne h]
      have h' : ¬ a = x := fun e => h e.symm
      simp [cnd_false, h']
theorem l1Has_eq (l : List (List UInt8)) (a : List UInt8) : b_l1Has l a = decide (a ∈ l) := l1Has_l1 a l
theorem l4Vars_l1 {rec : TType → List (List UInt8) → Option (List (List UInt8))} : ∀ (xs : List TType) (y : List (List UInt8)), (∀ x ∈ xs, ∀ l, l.length + tnd x ≤ 4294967296 → rec x l = some (varsT x l)) → y.length + tnds xs ≤ 4294967296 → b_l4Vars_l1 rec xs y = some (varsTs xs y) ∧ b_l4Vars_l2 rec xs y = some (varsTs xs y)
  | [], y, _, _ => ⟨rfl, rfl⟩
  | x :: xs, y, h, hl => by
    simp only [tnds] at hl
    have h1 := varsT_len x y
    simp only [b_l4Vars_l1, b_l4Vars_l2, varsTs]
    rw [h x (by simp) y (by omega)]
    exact l4Vars_l1 xs _ (fun z hz => h z (by simp [hz])) (by omega)
theorem l4Vars_eq : ∀ (n : Nat) (t : TType) (l : List (List UInt8)), tnd t ≤ n → l.length + tnd t ≤ 4294967296 → m_l4Vars n t l = some (varsT t l)
  | 0, t, l, h, _ => by have := tnd_pos t; omega
  | n + 1, ⟨k, s, ts⟩, l, h, hl => by
    simp only [tnd] at h hl
    have hr : ∀ x ∈ ts, ∀ l, l.length + tnd x ≤ 4294967296 → m_l4Vars n x l = some (varsT x l) := fun x hx l hl => l4Vars_eq n x l (by have := tnd_mem hx; omega) hl
    simp only [m_l4Vars, b_l4Vars, lt_, l1Has_eq, varsT, addVar]
    by_cases hk : k = 1
    · by_cases hs : s ∈ l
      · simp only [hk, hs, beq_self_eq_true, cnd_true, decide_true, Bool.not_true, cnd_false]
        simp only [not_true, and_false, if_false]
        exact (l4Vars_l1 ts l hr (by omega)).2
      · simp only [hk, hs, beq_self_eq_true, cnd_true, decide_false, Bool.not_false]
        simp only [not_false_eq_true, and_self, if_true]
        rw [gd_eq (by simp; omega)]
        exact (l4Vars_l1 ts (l ++ [s]) hr (by simp; omega)).1
    · simp only [beq_false_of_ne hk, cnd_false, hk, false_and, if_false]
      exact (l4Vars_l1 ts l hr (by omega)).2
theorem t_l4Vars (x0 : TType) (x1 : List (List UInt8)) (w0 : Nat) (h : (x1 : List (List UInt8)).length + tnd x0 ≤ 4294967296) : Go.Eng.Spec Try.prog 54 [.d (eType x0), .sl 0 w0] [.own 9 1 w0 (eStrs x1)] (fun sv Lo => ∃ v'0, sv = .sl 0 v'0 ∧ Lo = [.own 9 1 v'0 (eStrs (varsT x0 x1))]) := s_l4Vars (tnd x0) x0 x1 w0 (l4Vars_eq _ _ _ (Nat.le_refl _) h)
def b_sTypeVariables (a0 : TType) : Option (List (List UInt8)) :=
gd (([] : List (List UInt8)).length + tnd a0 ≤ 4294967296) (lt_ (varsT a0 []) fun x1 =>
(some x1))
set_option maxHeartbeats 4000000 in
theorem w_sTypeVariables (a0 : TType) {r : List (List UInt8)} (h : b_sTypeVariables a0 = some r) : SpecP Try.prog 30 [.d (eType a0)] [.sl 1 (eStrs r)] := by
  obtain ⟨a0_0, a0_1, a0_2⟩ := a0
  unfold b_sTypeVariables at h
  refine SpecP_intro Try.func30 rfl (by kernel_rfl) rfl fun A _ => ?_
  refine goL ?_
  refine VO_l0 ?_
  obtain ⟨g2, h⟩ := gd_s h
  obtain ⟨x1, hx1, h⟩ := lt_x h
  have sx1 := t_l4Vars (TType.mk a0_0 a0_1 a0_2) [] 0 g2
  rw [hx1] at sx1
  refine VO_cG [1] (sx1) ?_
  rintro _ _ ⟨v3, rfl, rfl⟩
  show VO _ _ _ _ ⟨(_, .sl 1 v3) :: _, [.box [.d (.i .i64 a0_0), .d (.s a0_1), .d (.sl 3 (eTypes a0_2))], .own 9 1 v3 (eStrs x1)], _⟩ _
  refine goL ?_
  refine V_freezeO 1 rfl rfl ?_
  refine V_ret ?_
  replace h := Option.some.inj h
  subst h
  exact R_rP
end Go.Proofs.Ytiaghdodeinecaa
