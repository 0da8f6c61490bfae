/- Zk2. Written by a program of mine (aw.py). -/
import Derived.Test.YthojhakapbfbiaaFacts
import Derived.Test.YthojhakapbfbiaaZk1
set_option linter.unusedVariables false
set_option linter.unusedSimpArgs false
set_option linter.unusedSectionVars false
namespace Go.Proofs.Ythojhakapbfbiaa
open Go Go.Eng
attribute [local irreducible] V VO VQ VY Quiet QR SpecP SpecO MSpec Rng PostP PostO PostG
def b_IndexS_l1 (a1 : List UInt8) : List (List UInt8) → Nat → Int
  | [], y1 => (-1)
  | x4 :: xs, y1 => (cnd (a1 == x4) (
(y1 : Int)) (
b_IndexS_l1 a1 xs (y1 + 1)))
def b_IndexS (a0 : List (List UInt8)) (a1 : List UInt8) : Int :=
b_IndexS_l1 a1 a0 0
set_option maxHeartbeats 4000000 in
theorem w_IndexS (a0 : List (List UInt8)) (a1 : List UInt8) : SpecP Try.prog 116 [.d (.sl 1 (eStrs a0)), .d (.s a1)] [.i .i64 (b_IndexS a0 a1)] := by
  obtain ⟨r, h⟩ : ∃ r, b_IndexS a0 a1 = r := ⟨_, rfl⟩
  rw [h]
  unfold b_IndexS at h
  refine SpecP_intro Try.func116 rfl (by kernel_rfl) rfl fun A _ => ?_
  refine goL ?_
  refine V_block ?_
  show V _ _ _ _ _
  refine V_bd 0 (fun z2 => ?_)
  refine V_loop1 (fun (y1 : Nat) => ⟨[(0, .d (.sl 1 (eStrs a0))), (1, .d (.s a1)), (7, .d (.i .i64 (a0.length : Int))), (8, .d (.i .i64 (y1 : Int)))], [], Try.f116.ntmps⟩) (fun y1 => b_IndexS_l1 a1 (a0.drop y1) y1 = r) (fun y1 => a0.length - y1) 0 ⟨rfl, ⟨⟨rfl, rfl⟩, ⟨rfl, rfl⟩, ⟨rfl, rfl⟩, ⟨rfl, rfl⟩, trivial⟩, ⟨[], rfl⟩, rfl⟩ h ?_
  rintro y1 h
  refine goL ?_
  refine V_seq (V_cb (fun c3 => ?_) (fun c3 => ?_))
  · have hky12 := kltN c3
    obtain ⟨x4, hx4, hdx4⟩ := drop_at hky12
    rw [hdx4, b_IndexS_l1.eq_2] at h
    refine V_skip ?_
    show V _ _ _ _ _
    refine V_seq (V_block ?_)
    refine goL ?_
    refine VO_r (QR_ixn y1 (gStr hx4)) ?_
    refine goL ?_
    refine V_cb (fun c5 => ?_) (fun c5 => ?_)
    · replace h := cnd_t c5 h
      refine goL ?_
      refine V_ret ?_
      subst h
      exact R_rP
    · replace h := cnd_f c5 h
      refine V_skip ?_
      show V _ _ _ _ _
      refine goL ?_
      refine VO_r (QR_inc y1 (by omega)) ?_
      refine goL ?_
      exact ⟨(y1 + 1), h, by omega, ⟨rfl, ⟨⟨rfl, rfl⟩, ⟨rfl, rfl⟩, ⟨rfl, rfl⟩, ⟨rfl, rfl⟩, trivial⟩, ⟨_, rfl⟩, rfl⟩⟩
  · have hky12 := kgeN c3
    rw [drop_end hky12, b_IndexS_l1.eq_1] at h
    refine V_exit ?_
    show V _ _ _ _ _
    refine goL ?_
    refine V_ret ?_
    subst h
    exact R_rP
def b_ContainsS (a0 : List (List UInt8)) (a1 : List UInt8) : Bool :=
(decide ((b_IndexS a0 a1) ≥ 0))
set_option maxHeartbeats 4000000 in
theorem w_ContainsS (a0 : List (List UInt8)) (a1 : List UInt8) : SpecP Try.prog 115 [.d (.sl 1 (eStrs a0)), .d (.s a1)] [.b (b_ContainsS a0 a1)] := by
  obtain ⟨r, h⟩ : ∃ r, b_ContainsS a0 a1 = r := ⟨_, rfl⟩
  rw [h]
  unfold b_ContainsS at h
  refine SpecP_intro Try.func115 rfl (by kernel_rfl) rfl fun A _ => ?_
  refine goL ?_
  refine VO_r (QR_call (w_IndexS a0 a1)) ?_
  refine goL ?_
  refine V_ret ?_
  subst h
  exact R_rP
def b_varsOf1 (u : TType) (l1 : List (List UInt8)) : Option (List (List UInt8)) :=
lt_ ((cnd (u.kind == 1) ((!(b_ContainsS l1 u.name))) (false))) fun b1 =>
(cnd b1 (
gd (l1.length + [u.name].length ≤ 4294967296) (
(some (l1 ++ [u.name])))) (
(some l1)))
set_option maxHeartbeats 4000000 in
theorem w_varsOf1 (u : TType) (l1 : List (List UInt8)) (v1 : Nat) {r : List (List UInt8)} (h : b_varsOf1 u l1 = some r) : Go.Eng.Spec Try.prog 114 [.d (eType u), .ptr 0 0] [.box [.sl 1 v1], .own 9 1 v1 (eStrs l1)] (fun sv Lo => ∃ v'1, sv = .tup [] ∧ Lo = [.box [.sl 1 v'1], .own 9 1 v'1 (eStrs r)]) := by
  obtain ⟨u_0, u_1, u_2⟩ := u
  unfold b_varsOf1 at h
  refine Spec_intro 2 Try.func114 rfl (by kernel_rfl) rfl rfl fun A _ => ?_
  refine goL ?_
  obtain ⟨b1, hb1, h⟩ := lt_x h
  refine VO_join ⟨[(1, .ptr 0 0), (2, .ptr 2 0), (12, .d (.b b1))], [.box [.sl 1 v1], .own 9 1 v1 (eStrs l1), .box [.d (.i .i64 u_0), .d (.s u_1), .d (.sl 3 (eTypes u_2))]], Try.f114.ntmps⟩ ?_ ?_
  · refine VO_case 6 (fun c2 => ?_) (fun c2 => ?_)
    · replace hb1 := cnd_t c2 hb1
      refine goL ?_
      refine VO_b ?_
      refine VO_k (Q_cb (w_ContainsS l1 u_1)) ?_
      refine goL ?_
      cases hb1
      exact ⟨rfl, ⟨⟨rfl, rfl⟩, ⟨rfl, rfl⟩, ⟨rfl, rfl⟩, trivial⟩, ⟨[], rfl⟩, rfl⟩
    · replace hb1 := cnd_f c2 hb1
      refine goL ?_
      cases hb1
      exact ⟨rfl, ⟨⟨rfl, rfl⟩, ⟨rfl, rfl⟩, ⟨rfl, rfl⟩, trivial⟩, ⟨[], rfl⟩, rfl⟩
  refine goL ?_
  refine V_cb (fun c3 => ?_) (fun c3 => ?_)
  · replace h := cnd_t c3 h
    refine goL ?_
    refine VO_l1t u_1 ?_
    obtain ⟨g4, h⟩ := gd_s h
    refine VO_ap g4 ?_
    refine goL ?_
    replace h := Option.some.inj h
    subst h
    exact N_rH [] [.box [.sl 1 (v1 + 1)], .own 9 1 (v1 + 1) (eStrs (l1 ++ [u_1]))] ⟨(v1 + 1), rfl, rfl⟩
  · replace h := cnd_f c3 h
    refine V_skip ?_
    show PostG _ _ _ _ _ _
    replace h := Option.some.inj h
    subst h
    exact N_rH [] [.box [.sl 1 v1], .own 9 1 v1 (eStrs l1)] ⟨v1, rfl, rfl⟩
def b_eachVars_l1 (rec_eachVars : TType → (List (List UInt8)) → Option (List (List UInt8))) : List TType → (List (List UInt8)) → Option (List (List UInt8))
  | [], y3 => (some y3)
  | x8 :: xs, y3 => bnd (rec_eachVars x8 y3) fun x9 =>
b_eachVars_l1 rec_eachVars xs x9
def b_eachVars (rec_eachVars : TType → (List (List UInt8)) → Option (List (List UInt8))) (u : TType) (l1 : List (List UInt8)) : Option (List (List UInt8)) :=
bnd (b_varsOf1 u l1) fun x1 =>
b_eachVars_l1 rec_eachVars u.args x1
set_option maxHeartbeats 4000000 in
theorem w_eachVars {rec_eachVars : TType → (List (List UInt8)) → Option (List (List UInt8))} (hrec_eachVars : ∀ (x0 : TType) (x1 : List (List UInt8)) (w0 : Nat) {r : List (List UInt8)}, rec_eachVars x0 x1 = some r → Go.Eng.Spec Try.prog 113 [.d (eType x0), .fn 114 [.ptr 0 0]] [.box [.sl 1 w0], .own 9 1 w0 (eStrs x1)] (fun sv Lo => ∃ v'1, sv = .tup [] ∧ Lo = [.box [.sl 1 v'1], .own 9 1 v'1 (eStrs r)])) (u : TType) (l1 : List (List UInt8)) (v1 : Nat) {r : List (List UInt8)} (h : b_eachVars rec_eachVars u l1 = some r) : Go.Eng.Spec Try.prog 113 [.d (eType u), .fn 114 [.ptr 0 0]] [.box [.sl 1 v1], .own 9 1 v1 (eStrs l1)] (fun sv Lo => ∃ v'1, sv = .tup [] ∧ Lo = [.box [.sl 1 v'1], .own 9 1 v'1 (eStrs r)]) := by
  obtain ⟨u_0, u_1, u_2⟩ := u
  unfold b_eachVars at h
  refine Spec_intro 2 Try.func113 rfl (by kernel_rfl) rfl rfl fun A _ => ?_
  refine goL ?_
  obtain ⟨x1, hx1, h⟩ := bnd_s h
  refine VO_cG [0, 1] (w_varsOf1 (TType.mk u_0 u_1 u_2) l1 v1 hx1) ?_
  rintro _ _ ⟨v2, rfl, rfl⟩
  show VO _ _ _ _ ⟨(_, .tup []) :: _, [.box [.sl 1 v2], .own 9 1 v2 (eStrs x1), .box [.d (.i .i64 u_0), .d (.s u_1), .d (.sl 3 (eTypes u_2))]], _⟩ _
  refine goL ?_
  refine V_block ?_
  show V _ _ _ _ _
  refine V_bd 10 (fun z6 => ?_)
  refine V_loop3 (fun (y5 : Nat) (y3 : List (List UInt8)) (v4 : Nat) => ⟨[(1, .fn 114 [.ptr 0 0]), (10, .d (.sl 3 (eTypes u_2))), (11, .d (.i .i64 (u_2.length : Int))), (12, .d (.i .i64 (y5 : Int)))], [.box [.sl 1 v4], .own 9 1 v4 (eStrs y3), .box [.d (.i .i64 u_0), .d (.s u_1), .d (.sl 3 (eTypes u_2))]], Try.f113.ntmps⟩) (fun y5 y3 v4 => b_eachVars_l1 rec_eachVars (u_2.drop y5) y3 = some r) (fun y5 y3 v4 => u_2.length - y5) 0 x1 v2 ⟨rfl, ⟨⟨rfl, rfl⟩, ⟨rfl, rfl⟩, ⟨rfl, rfl⟩, ⟨rfl, rfl⟩, trivial⟩, ⟨[], rfl⟩, rfl⟩ h ?_
  rintro y5 y3 v4 h
  refine goL ?_
  refine V_seq (V_cb (fun c7 => ?_) (fun c7 => ?_))
  · have hky52 := kltN c7
    obtain ⟨x8, hx8, hdx8⟩ := drop_at hky52
    rw [hdx8, b_eachVars_l1.eq_2] at h
    obtain ⟨x8_0, x8_1, x8_2⟩ := x8
    refine V_skip ?_
    show V _ _ _ _ _
    refine V_seq (V_block ?_)
    refine goL ?_
    refine VO_r (QR_ixn y5 (gType hx8)) ?_
    refine goL ?_
    obtain ⟨x9, hx9, h⟩ := bnd_s h
    refine VO_cG [0, 1] (hrec_eachVars (TType.mk x8_0 x8_1 x8_2) y3 v4 hx9) ?_
    rintro _ _ ⟨v10, rfl, rfl⟩
    show VO _ _ _ _ ⟨(_, .tup []) :: _, [.box [.sl 1 v10], .own 9 1 v10 (eStrs x9), .box [.d (.i .i64 u_0), .d (.s u_1), .d (.sl 3 (eTypes u_2))], .box [.d (.i .i64 x8_0), .d (.s x8_1), .d (.sl 3 (eTypes x8_2))]], _⟩ _
    refine goL ?_
    refine VO_r (QR_inc y5 (by omega)) ?_
    refine goL ?_
    exact ⟨(y5 + 1), x9, v10, h, by omega, ⟨rfl, ⟨⟨rfl, rfl⟩, ⟨rfl, rfl⟩, ⟨rfl, rfl⟩, ⟨rfl, rfl⟩, trivial⟩, ⟨_, rfl⟩, rfl⟩⟩
  · have hky52 := kgeN c7
    rw [drop_end hky52, b_eachVars_l1.eq_1] at h
    refine V_exit ?_
    show PostG _ _ _ _ _ _
    replace h := Option.some.inj h
    subst h
    exact N_rH [] [.box [.sl 1 v4], .own 9 1 v4 (eStrs y3)] ⟨v4, rfl, rfl⟩
def m_eachVars : Nat → TType → (List (List UInt8)) → Option (List (List UInt8))
  | 0, _, _ => none
  | n + 1, x0, x1 => b_eachVars (m_eachVars n) x0 x1
theorem s_eachVars : ∀ (n : Nat) (x0 : TType) (x1 : List (List UInt8)) (w0 : Nat) {r : List (List UInt8)}, m_eachVars n x0 x1 = some r → Go.Eng.Spec Try.prog 113 [.d (eType x0), .fn 114 [.ptr 0 0]] [.box [.sl 1 w0], .own 9 1 w0 (eStrs x1)] (fun sv Lo => ∃ v'1, sv = .tup [] ∧ Lo = [.box [.sl 1 v'1], .own 9 1 v'1 (eStrs r)]) := by
  intro n
  induction n with
  | zero => intro x0 x1 w0 r h; cases h
  | succ n ih => intro x0 x1 w0 r h; exact w_eachVars ih x0 x1 w0 h
/-! ### the variables of a type, by hand -/
def addVar (k : Int) (n : List UInt8) (l : List (List UInt8)) : List (List UInt8) := if k = 1 ∧ n ∉ l then l ++ [n] else l
mutual
def varsT : TType → List (List UInt8) → List (List UInt8)
  | ⟨k, n, ts⟩, l => varsTs ts (addVar k n l)
def varsTs : List TType → List (List UInt8) → List (List UInt8)
  | [], l => l
  | a :: ts, l => varsTs ts (varsT a l)
end
theorem addVar_len (k : Int) (n : List UInt8) (l : List (List UInt8)) : (addVar k n l).length ≤ l.length + 1 := by
  unfold addVar
  split
  · simp
  · omega
mutual
theorem varsT_len : ∀ (t : TType) (l : List (List UInt8)), (varsT t l).length ≤ l.length + tnd t
  | ⟨k, n, ts⟩, l => by
    simp only [varsT, tnd]
    have h1 := varsTs_len ts (addVar k n l)
    have h2 := addVar_len k n l
    omega
theorem varsTs_len : ∀ (ts : List TType) (l : List (List UInt8)), (varsTs ts l).length ≤ l.length + tnds ts
  | [], l => by simp [varsTs]
  | a :: ts, l => by
    simp only [varsTs, tnds]
    have h1 := varsTs_len ts (varsT a l)
    have h2 := varsT_len a l
    omega
end
theorem IndexS_pos (a : List UInt8) : ∀ (l : List (List UInt8)) (k : Nat), 0 ≤ b_IndexS_l1 a l k ↔ a ∈ l
  | [], k => by simp [b_IndexS_l1]
  | x :: l, k => by
    by_cases h : a = x
    · subst h
      simp [b_IndexS_l1, cnd]
    · have h1 : (a == x) = false := by simpa using h
      have h2 : b_IndexS_l1 a (x :: l) k = b_IndexS_l1 a l (k + 1) := by simp [b_IndexS_l1, h1, cnd]
      rw [h2, IndexS_pos a l (k + 1)]
      simp [h]
theorem ContainsS_eq (l : List (List UInt8)) (a : List UInt8) : b_ContainsS l a = decide (a ∈ l) := by
  unfold b_ContainsS b_IndexS
  exact decide_eq_decide.2 (IndexS_pos a l 0)
theorem varsOf1_eq (u : TType) (l : List (List UInt8)) (h : l.length + 1 ≤ 4294967296) : b_varsOf1 u l = some (addVar u.kind u.name l) := by
  unfold b_varsOf1 lt_ addVar
  rw [ContainsS_eq]
  by_cases h1 : u.kind = 1
  · by_cases h2 : u.name ∈ l
    · simp [h1, h2, cnd]
    · simp only [h1, h2, decide_false, Bool.not_false, beq_self_eq_true, cnd_true, not_false_eq_true, and_self, if_true]
      rw [gd_eq (by simpa using h)]
  · have : (u.kind == 1) = false := by simpa using h1
    simp [this, h1, cnd]
theorem eachVars_l1_eq {n : Nat} (ih : ∀ (t : TType) (l : List (List UInt8)), tnd t ≤ n → l.length + tnd t ≤ 4294967296 → m_eachVars n t l = some (varsT t l)) :
    ∀ (xs : List TType) (l : List (List UInt8)), tnds xs ≤ n → l.length + tnds xs ≤ 4294967296 → b_eachVars_l1 (m_eachVars n) xs l = some (varsTs xs l)
  | [], l, _, _ => by simp [b_eachVars_l1, varsTs]
  | x :: xs, l, h1, h2 => by
    simp only [tnds] at h1 h2
    simp only [b_eachVars_l1, varsTs]
    rw [ih x l (by omega) (by omega)]
    have := varsT_len x l
    exact eachVars_l1_eq ih xs _ (by omega) (by omega)
theorem eachVars_eq : ∀ (n : Nat) (t : TType) (l : List (List UInt8)), tnd t ≤ n → l.length + tnd t ≤ 4294967296 → m_eachVars n t l = some (varsT t l)
  | 0, ⟨k, nm, ts⟩, l, h, _ => by simp only [tnd] at h; omega
  | n + 1, ⟨k, nm, ts⟩, l, h1, h2 => by
    simp only [tnd] at h1 h2
    simp only [m_eachVars, b_eachVars, varsT]
    rw [varsOf1_eq _ _ (by omega)]
    have := addVar_len k nm l
    exact eachVars_l1_eq (eachVars_eq n) ts (addVar k nm l) (by omega) (by omega)

theorem t_eachVars (x0 : TType) (x1 : List (List UInt8)) (w0 : Nat) (h : x1.length + tnd x0 ≤ 4294967296) : Go.Eng.Spec Try.prog 113 [.d (eType x0), .fn 114 [.ptr 0 0]] [.box [.sl 1 w0], .own 9 1 w0 (eStrs x1)] (fun sv Lo => ∃ v'1, sv = .tup [] ∧ Lo = [.box [.sl 1 v'1], .own 9 1 v'1 (eStrs (varsT x0 x1))]) := s_eachVars (tnd x0) x0 x1 w0 (eachVars_eq _ _ _ (Nat.le_refl _) h)
def b_variablesOf_l1 : List TType → (List (List UInt8)) → Option (List (List UInt8))
  | [], y1 => (some y1)
  | x6 :: xs, y1 => gd (y1.length + tnd x6 ≤ 4294967296) (lt_ (varsT x6 y1) fun x7 =>
b_variablesOf_l1 xs x7)
def b_variablesOf (a0 : List TType) : Option (List (List UInt8)) :=
b_variablesOf_l1 a0 []
set_option maxHeartbeats 4000000 in
theorem w_variablesOf (a0 : List TType) {r : List (List UInt8)} (h : b_variablesOf a0 = some r) : SpecO Try.prog 104 [.d (.sl 3 (eTypes a0))] [9] [.sl 1 (eStrs r)] := by
  unfold b_variablesOf at h
  refine SpecO_intro Try.func104 rfl (by kernel_rfl) rfl (by simp) fun A _ => ?_
  refine goL ?_
  refine VO_l0 ?_
  refine goL ?_
  refine V_block ?_
  show V _ _ _ _ _
  refine V_bd 7 (fun z4 => ?_)
  refine V_loop3 (fun (y3 : Nat) (y1 : List (List UInt8)) (v2 : Nat) => ⟨[(3, .ptr 1 0), (7, .d (.sl 3 (eTypes a0))), (8, .d (.i .i64 (a0.length : Int))), (9, .d (.i .i64 (y3 : Int)))], [.own 9 1 v2 (eStrs y1), .box [.sl 0 v2]], Try.f104.ntmps⟩) (fun y3 y1 v2 => b_variablesOf_l1 (a0.drop y3) y1 = some r) (fun y3 y1 v2 => a0.length - y3) 0 [] 0 ⟨rfl, ⟨⟨rfl, rfl⟩, ⟨rfl, rfl⟩, ⟨rfl, rfl⟩, ⟨rfl, rfl⟩, trivial⟩, ⟨[], rfl⟩, rfl⟩ h ?_
  rintro y3 y1 v2 h
  refine goL ?_
  refine V_seq (V_cb (fun c5 => ?_) (fun c5 => ?_))
  · have hky32 := kltN c5
    obtain ⟨x6, hx6, hdx6⟩ := drop_at hky32
    rw [hdx6, b_variablesOf_l1.eq_2] at h
    obtain ⟨x6_0, x6_1, x6_2⟩ := x6
    refine V_skip ?_
    show V _ _ _ _ _
    refine V_seq (V_block ?_)
    refine goL ?_
    refine VO_r (QR_ixn y3 (gType hx6)) ?_
    refine goL ?_
    refine VO_r (QR_fn) ?_
    obtain ⟨g8, h⟩ := gd_s h
    obtain ⟨x7, hx7, h⟩ := lt_x h
    have sx7 := t_eachVars (TType.mk x6_0 x6_1 x6_2) y1 v2 g8
    rw [hx7] at sx7
    refine VO_cG [1, 0] sx7 ?_
    rintro _ _ ⟨v9, rfl, rfl⟩
    show VO _ _ _ _ ⟨(_, .tup []) :: _, [.own 9 1 v9 (eStrs x7), .box [.sl 0 v9], .box [.d (.i .i64 x6_0), .d (.s x6_1), .d (.sl 3 (eTypes x6_2))]], _⟩ _
    refine goL ?_
    refine VO_r (QR_inc y3 (by omega)) ?_
    refine goL ?_
    exact ⟨(y3 + 1), x7, v9, h, by omega, ⟨rfl, ⟨⟨rfl, rfl⟩, ⟨rfl, rfl⟩, ⟨rfl, rfl⟩, ⟨rfl, rfl⟩, trivial⟩, ⟨_, rfl⟩, rfl⟩⟩
  · have hky32 := kgeN c5
    rw [drop_end hky32, b_variablesOf_l1.eq_1] at h
    refine V_exit ?_
    show V _ _ _ _ _
    refine goL ?_
    refine V_ret ?_
    replace h := Option.some.inj h
    subst h
    exact R_rO
def b_TypeVariables (a0 : TType) : Option (List (List UInt8)) :=
bnd (b_variablesOf [a0]) fun x1 =>
(some x1)
set_option maxHeartbeats 4000000 in
theorem w_TypeVariables (a0 : TType) {r : List (List UInt8)} (h : b_TypeVariables a0 = some r) : SpecO Try.prog 79 [.d (eType a0)] [9] [.sl 1 (eStrs r)] := by
  obtain ⟨a0_0, a0_1, a0_2⟩ := a0
  unfold b_TypeVariables at h
  refine SpecO_intro Try.func79 rfl (by kernel_rfl) rfl (by simp) fun A _ => ?_
  refine goL ?_
  refine VO_la1 (u := (.st [.i .i64 a0_0, .s a0_1, .sl 3 (eTypes a0_2)])) ?_
  refine VO_freeze 1 rfl rfl ?_
  obtain ⟨x1, hx1, h⟩ := bnd_s h
  refine VO_co (w_variablesOf [(TType.mk a0_0 a0_1 a0_2)] hx1) ?_
  refine goL ?_
  refine V_ret ?_
  replace h := Option.some.inj h
  subst h
  exact R_rO
def b_isDigit (a0 : Int) : Bool :=
lt_ ((cnd (decide (a0 ≥ 48)) ((decide (a0 ≤ 57))) (false))) fun b1 =>
b1
set_option maxHeartbeats 4000000 in
theorem w_isDigit (a0 : Int) : SpecP Try.prog 105 [.d (.i .u8 a0)] [.b (b_isDigit a0)] := by
  obtain ⟨r, h⟩ : ∃ r, b_isDigit a0 = r := ⟨_, rfl⟩
  rw [h]
  unfold b_isDigit at h
  refine SpecP_intro Try.func105 rfl (by kernel_rfl) rfl fun A _ => ?_
  refine goL ?_
  obtain ⟨b1, hb1, h⟩ := lt_x h
  refine VO_join ⟨[(2, .d (.b b1))], [], Try.f105.ntmps⟩ ?_ ?_
  · refine VO_case 5 (fun c2 => ?_) (fun c2 => ?_)
    · replace hb1 := cnd_t c2 hb1
      refine goL ?_
      cases hb1
      exact ⟨rfl, ⟨⟨rfl, rfl⟩, trivial⟩, ⟨[], rfl⟩, rfl⟩
    · replace hb1 := cnd_f c2 hb1
      refine goL ?_
      cases hb1
      exact ⟨rfl, ⟨⟨rfl, rfl⟩, trivial⟩, ⟨[], rfl⟩, rfl⟩
  refine goL ?_
  refine V_ret ?_
  subst h
  exact R_rP
def b_isInference_l1 : List UInt8 → Option (Bool)
  | [] => (some true)
  | x11 :: xs => (cnd (!(b_isDigit (x11.toNat : Int))) (
(some false)) (
b_isInference_l1 xs ))
def b_isInference (a0 : List UInt8) : Option (Bool) :=
bnd ((cnd (decide ((a0.length : Int) < 2)) ((some true)) (bnd (at? a0 0) fun x3 =>
(cnd ((x3.toNat : Int) != 63) ((some true)) ((cnd (decide ((a0.length : Int) > 2)) (bnd (at? a0 1) fun x6 =>
(some ((x6.toNat : Int) == 48))) ((some false)))))))) fun b1 =>
(cnd b1 (
(some false)) (
b_isInference_l1 (a0.drop 1) ))
set_option maxHeartbeats 4000000 in
theorem w_isInference (a0 : List UInt8) {r : Bool} (h : b_isInference a0 = some r) : SpecP Try.prog 81 [.d (.s a0)] [.b r] := by
  unfold b_isInference at h
  refine SpecP_intro Try.func81 rfl (by kernel_rfl) rfl fun A _ => ?_
  refine goL ?_
  obtain ⟨b1, hb1, h⟩ := bnd_s h
  refine VO_join ⟨[(0, .d (.s a0)), (21, .d (.b b1))], [], Try.f81.ntmps⟩ ?_ ?_
  · refine VO_case 7 (fun c2 => ?_) (fun c2 => ?_)
    · replace hb1 := cnd_t c2 hb1
      refine goL ?_
      cases hb1
      exact ⟨rfl, ⟨⟨rfl, rfl⟩, ⟨rfl, rfl⟩, trivial⟩, ⟨[], rfl⟩, rfl⟩
    · replace hb1 := cnd_f c2 hb1
      refine goL ?_
      refine VO_b ?_
      obtain ⟨x3, hx3, hb1⟩ := bnd_s hb1
      obtain ⟨hx30, hx3⟩ := at_s hx3
      refine VO_r (QR_six hx30 hx3) ?_
      refine goL ?_
      refine VO_case 12 (fun c4 => ?_) (fun c4 => ?_)
      · replace hb1 := cnd_t c4 hb1
        refine goL ?_
        cases hb1
        exact ⟨rfl, ⟨⟨rfl, rfl⟩, ⟨rfl, rfl⟩, trivial⟩, ⟨[], rfl⟩, rfl⟩
      · replace hb1 := cnd_f c4 hb1
        refine goL ?_
        refine VO_case 16 (fun c5 => ?_) (fun c5 => ?_)
        · replace hb1 := cnd_t c5 hb1
          refine goL ?_
          refine VO_b ?_
          obtain ⟨x6, hx6, hb1⟩ := bnd_s hb1
          obtain ⟨hx60, hx6⟩ := at_s hx6
          refine VO_r (QR_six hx60 hx6) ?_
          refine goL ?_
          cases hb1
          exact ⟨rfl, ⟨⟨rfl, rfl⟩, ⟨rfl, rfl⟩, trivial⟩, ⟨[], rfl⟩, rfl⟩
        · replace hb1 := cnd_f c5 hb1
          refine goL ?_
          cases hb1
          exact ⟨rfl, ⟨⟨rfl, rfl⟩, ⟨rfl, rfl⟩, trivial⟩, ⟨[], rfl⟩, rfl⟩
  refine goL ?_
  refine V_cb (fun c7 => ?_) (fun c7 => ?_)
  · replace h := cnd_t c7 h
    refine goL ?_
    refine V_ret ?_
    replace h := Option.some.inj h
    subst h
    exact R_rP
  · replace h := cnd_f c7 h
    refine V_skip ?_
    show V _ _ _ _ _
    refine goL ?_
    refine V_block ?_
    show V _ _ _ _ _
    refine V_bdS 0 (fun z9 => ?_)
    refine V_loop1 (fun (y8 : Nat) => ⟨[(0, .d (.s a0)), (3, .d (.i .i64 (y8 : Int)))], [], Try.f81.ntmps⟩) (fun y8 => b_isInference_l1 (a0.drop y8)  = some r) (fun y8 => a0.length - y8) 1 ⟨rfl, ⟨⟨rfl, rfl⟩, ⟨rfl, rfl⟩, trivial⟩, ⟨[], rfl⟩, rfl⟩ h ?_
    rintro y8 h
    refine goL ?_
    refine V_cb (fun c10 => ?_) (fun c10 => ?_)
    · have hky82 := kltS c10
      obtain ⟨x11, hx11, hdx11⟩ := drop_at hky82
      rw [hdx11, b_isInference_l1.eq_2] at h
      refine V_skip ?_
      show V _ _ _ _ _
      refine V_seq (V_block ?_)
      refine goL ?_
      refine VO_r (QR_sixn y8 hx11) ?_
      refine VO_r (QR_call (w_isDigit (x11.toNat : Int))) ?_
      refine goL ?_
      refine V_cb (fun c12 => ?_) (fun c12 => ?_)
      · replace h := cnd_t c12 h
        refine goL ?_
        refine V_ret ?_
        replace h := Option.some.inj h
        subst h
        exact R_rP
      · replace h := cnd_f c12 h
        refine V_skip ?_
        show V _ _ _ _ _
        refine goL ?_
        refine VO_r (QR_inc y8 (by omega)) ?_
        refine goL ?_
        exact ⟨(y8 + 1), h, by omega, ⟨rfl, ⟨⟨rfl, rfl⟩, ⟨rfl, rfl⟩, trivial⟩, ⟨_, rfl⟩, rfl⟩⟩
    · have hky82 := kgeS c10
      rw [drop_end hky82, b_isInference_l1.eq_1] at h
      refine V_exit ?_
      show V _ _ _ _ _
      refine goL ?_
      refine V_ret ?_
      replace h := Option.some.inj h
      subst h
      exact R_rP
def b_l32Meta_l1 : List UInt8 → Option (Bool)
  | [] => (some true)
  | x12 :: xs => lt_ ((cnd (decide ((x12.toNat : Int) < 48)) (true) ((decide ((x12.toNat : Int) > 57))))) fun b13 =>
(cnd b13 (
(some false)) (
b_l32Meta_l1 xs ))
def b_l32Meta (a0 : TType) : Option (Bool) :=
bnd ((cnd (a0.kind != 1) ((some true)) ((cnd (decide ((a0.name.length : Int) < 2)) ((some true)) (bnd (at? a0.name 0) fun x4 =>
(cnd ((x4.toNat : Int) != 63) ((some true)) (bnd (at? a0.name 1) fun x6 =>
(cnd ((x6.toNat : Int) == 48) ((some (decide ((a0.name.length : Int) > 2)))) ((some false)))))))))) fun b1 =>
(cnd b1 (
(some false)) (
b_l32Meta_l1 (a0.name.drop 1) ))
set_option maxHeartbeats 4000000 in
theorem w_l32Meta (a0 : TType) {r : Bool} (h : b_l32Meta a0 = some r) : SpecP Try.prog 73 [.d (eType a0)] [.b r] := by
  obtain ⟨a0_0, a0_1, a0_2⟩ := a0
  unfold b_l32Meta at h
  refine SpecP_intro Try.func73 rfl (by kernel_rfl) rfl fun A _ => ?_
  refine goL ?_
  obtain ⟨b1, hb1, h⟩ := bnd_s h
  refine VO_join ⟨[(1, .ptr 0 0), (3, .d (.i .i64 (a0_1.length : Int))), (30, .d (.b b1))], [.box [.d (.i .i64 a0_0), .d (.s a0_1), .d (.sl 3 (eTypes a0_2))]], Try.f73.ntmps⟩ ?_ ?_
  · refine VO_case 11 (fun c2 => ?_) (fun c2 => ?_)
    · replace hb1 := cnd_t c2 hb1
      refine goL ?_
      cases hb1
      exact ⟨rfl, ⟨⟨rfl, rfl⟩, ⟨rfl, rfl⟩, ⟨rfl, rfl⟩, trivial⟩, ⟨[], rfl⟩, rfl⟩
    · replace hb1 := cnd_f c2 hb1
      refine goL ?_
      refine VO_case 15 (fun c3 => ?_) (fun c3 => ?_)
      · replace hb1 := cnd_t c3 hb1
        refine goL ?_
        cases hb1
        exact ⟨rfl, ⟨⟨rfl, rfl⟩, ⟨rfl, rfl⟩, ⟨rfl, rfl⟩, trivial⟩, ⟨[], rfl⟩, rfl⟩
      · replace hb1 := cnd_f c3 hb1
        refine goL ?_
        refine VO_b ?_
        obtain ⟨x4, hx4, hb1⟩ := bnd_s hb1
        obtain ⟨hx40, hx4⟩ := at_s hx4
        refine VO_r (QR_six hx40 hx4) ?_
        refine goL ?_
        refine VO_case 21 (fun c5 => ?_) (fun c5 => ?_)
        · replace hb1 := cnd_t c5 hb1
          refine goL ?_
          cases hb1
          exact ⟨rfl, ⟨⟨rfl, rfl⟩, ⟨rfl, rfl⟩, ⟨rfl, rfl⟩, trivial⟩, ⟨[], rfl⟩, rfl⟩
        · replace hb1 := cnd_f c5 hb1
          refine goL ?_
          refine VO_b ?_
          obtain ⟨x6, hx6, hb1⟩ := bnd_s hb1
          obtain ⟨hx60, hx6⟩ := at_s hx6
          refine VO_r (QR_six hx60 hx6) ?_
          refine goL ?_
          refine VO_case 26 (fun c7 => ?_) (fun c7 => ?_)
          · replace hb1 := cnd_t c7 hb1
            refine goL ?_
            cases hb1
            exact ⟨rfl, ⟨⟨rfl, rfl⟩, ⟨rfl, rfl⟩, ⟨rfl, rfl⟩, trivial⟩, ⟨[], rfl⟩, rfl⟩
          · replace hb1 := cnd_f c7 hb1
            refine goL ?_
            cases hb1
            exact ⟨rfl, ⟨⟨rfl, rfl⟩, ⟨rfl, rfl⟩, ⟨rfl, rfl⟩, trivial⟩, ⟨[], rfl⟩, rfl⟩
  refine goL ?_
  refine V_cb (fun c8 => ?_) (fun c8 => ?_)
  · replace h := cnd_t c8 h
    refine goL ?_
    refine V_ret ?_
    replace h := Option.some.inj h
    subst h
    exact R_rP
  · replace h := cnd_f c8 h
    refine V_skip ?_
    show V _ _ _ _ _
    refine goL ?_
    refine V_block ?_
    show V _ _ _ _ _
    refine V_bdcS 0 1 (fun z10 => ?_)
    refine V_loop1 (fun (y9 : Nat) => ⟨[(1, .ptr 0 0), (3, .d (.i .i64 (a0_1.length : Int))), (4, .d (.i .i64 (y9 : Int)))], [.box [.d (.i .i64 a0_0), .d (.s a0_1), .d (.sl 3 (eTypes a0_2))]], Try.f73.ntmps⟩) (fun y9 => b_l32Meta_l1 (a0_1.drop y9)  = some r) (fun y9 => a0_1.length - y9) 1 ⟨rfl, ⟨⟨rfl, rfl⟩, ⟨rfl, rfl⟩, ⟨rfl, rfl⟩, trivial⟩, ⟨[], rfl⟩, rfl⟩ h ?_
    rintro y9 h
    refine goL ?_
    refine V_cb (fun c11 => ?_) (fun c11 => ?_)
    · have hky92 := kltS c11
      obtain ⟨x12, hx12, hdx12⟩ := drop_at hky92
      rw [hdx12, b_l32Meta_l1.eq_2] at h
      refine V_skip ?_
      show V _ _ _ _ _
      refine V_seq (V_block ?_)
      refine goL ?_
      refine VO_r (QR_sixn y9 hx12) ?_
      refine goL ?_
      obtain ⟨b13, hb13, h⟩ := lt_x h
      refine VO_join ⟨[(1, .ptr 0 0), (3, .d (.i .i64 (a0_1.length : Int))), (4, .d (.i .i64 (y9 : Int))), (47, .d (.b b13))], [.box [.d (.i .i64 a0_0), .d (.s a0_1), .d (.sl 3 (eTypes a0_2))]], Try.f73.ntmps⟩ ?_ ?_
      · refine VO_case 41 (fun c14 => ?_) (fun c14 => ?_)
        · replace hb13 := cnd_t c14 hb13
          refine goL ?_
          cases hb13
          exact ⟨rfl, ⟨⟨rfl, rfl⟩, ⟨rfl, rfl⟩, ⟨rfl, rfl⟩, ⟨rfl, rfl⟩, trivial⟩, ⟨[], rfl⟩, rfl⟩
        · replace hb13 := cnd_f c14 hb13
          refine goL ?_
          refine VO_b ?_
          refine VO_r (QR_sixn y9 hx12) ?_
          refine goL ?_
          cases hb13
          exact ⟨rfl, ⟨⟨rfl, rfl⟩, ⟨rfl, rfl⟩, ⟨rfl, rfl⟩, ⟨rfl, rfl⟩, trivial⟩, ⟨[], rfl⟩, rfl⟩
      refine goL ?_
      refine V_cb (fun c15 => ?_) (fun c15 => ?_)
      · replace h := cnd_t c15 h
        refine goL ?_
        refine V_ret ?_
        replace h := Option.some.inj h
        subst h
        exact R_rP
      · replace h := cnd_f c15 h
        refine V_skip ?_
        show V _ _ _ _ _
        refine goL ?_
        refine VO_r (QR_inc y9 (by omega)) ?_
        refine goL ?_
        exact ⟨(y9 + 1), h, by omega, ⟨rfl, ⟨⟨rfl, rfl⟩, ⟨rfl, rfl⟩, ⟨rfl, rfl⟩, trivial⟩, ⟨_, rfl⟩, rfl⟩⟩
    · have hky92 := kgeS c11
      rw [drop_end hky92, b_l32Meta_l1.eq_1] at h
      refine V_exit ?_
      show V _ _ _ _ _
      refine goL ?_
      refine V_ret ?_
      replace h := Option.some.inj h
      subst h
      exact R_rP
/-! ### inference variables, by hand -/
def dig (b : UInt8) : Bool := decide (48 ≤ b.toNat) && decide (b.toNat ≤ 57)
def isInf : List UInt8 → Bool
  | b0 :: b1 :: l => (b0.toNat == 63) && !(b1.toNat == 48 && !l.isEmpty) && (b1 :: l).all dig
  | _ => false
theorem isDigit_eq (b : UInt8) : b_isDigit (b.toNat : Int) = dig b := by
  unfold b_isDigit lt_ dig
  rw [cnd_ite]
  by_cases h1 : 48 ≤ b.toNat
  · have h3 : (decide ((b.toNat : Int) ≥ 48)) = true := decide_eq_true (by omega)
    rw [h3]
    simp [h1]
    omega
  · have h3 : (decide ((b.toNat : Int) ≥ 48)) = false := by simp; omega
    rw [h3]
    simp [h1]
theorem isInf_l1_eq : ∀ (l : List UInt8), b_isInference_l1 l = some (l.all dig)
  | [] => rfl
  | b :: l => by
    simp only [b_isInference_l1, isDigit_eq, List.all_cons]
    cases h : dig b with
    | true => simp [cnd, isInf_l1_eq l]
    | false => simp [cnd]
theorem l32Meta_l1_eq : ∀ (l : List UInt8), b_l32Meta_l1 l = some (l.all dig)
  | [] => rfl
  | b :: l => by
    simp only [b_l32Meta_l1, lt_, List.all_cons]
    have key : (cnd (decide ((b.toNat : Int) < 48)) true (decide ((b.toNat : Int) > 57))) = !dig b := by
      unfold dig
      rw [cnd_ite]
      by_cases h1 : b.toNat < 48
      · have h3 : (decide ((b.toNat : Int) < 48)) = true := decide_eq_true (by omega)
        rw [h3]
        have : ¬ 48 ≤ b.toNat := by omega
        simp [this]
      · have h3 : (decide ((b.toNat : Int) < 48)) = false := by simp; omega
        rw [h3]
        have : 48 ≤ b.toNat := by omega
        simp only [Bool.false_eq_true, if_false, this, decide_true, Bool.true_and]
        by_cases h2 : b.toNat ≤ 57
        · simp [h2]; omega
        · simp [h2]; omega
    rw [key]
    cases h : dig b with
    | true => simp [cnd, l32Meta_l1_eq l]
    | false => simp [cnd]
theorem isInference_eq (s : List UInt8) : b_isInference s = some (isInf s) := by
  match s with
  | [] => rfl
  | [a] => rfl
  | b0 :: b1 :: l =>
    unfold b_isInference
    have h1 : decide (((b0 :: b1 :: l).length : Int) < 2) = false := by simp; omega
    have e0 : at? (b0 :: b1 :: l) 0 = some b0 := rfl
    have e1 : at? (b0 :: b1 :: l) 1 = some b1 := rfl
    rw [h1, e0, e1]
    simp only [cnd_false, bnd, isInf]
    by_cases h2 : b0.toNat = 63
    · have h3 : ((b0.toNat : Int) != 63) = false := by simp [h2]
      have h4 : (b0.toNat == 63) = true := by simp [h2]
      rw [h3, h4]
      simp only [cnd_false, Bool.true_and, List.drop_succ_cons, List.drop_zero, isInf_l1_eq]
      cases l with
      | nil => simp [cnd]
      | cons b2 l =>
        have h5 : decide (((b0 :: b1 :: b2 :: l).length : Int) > 2) = true := by simp; omega
        rw [h5]
        simp only [cnd_true, List.isEmpty_cons, Bool.not_false, Bool.and_true]
        by_cases h6 : b1.toNat = 48
        · have h7 : ((b1.toNat : Int) == 48) = true := by simp [h6]
          have h8 : (b1.toNat == 48) = true := by simp [h6]
          rw [h7, h8]
          rfl
        · have h7 : ((b1.toNat : Int) == 48) = false := by simp; omega
          have h8 : (b1.toNat == 48) = false := by simp [h6]
          rw [h7, h8]
          simp [cnd]
    · have h3 : ((b0.toNat : Int) != 63) = true := by simp; omega
      have h4 : (b0.toNat == 63) = false := by simp [h2]
      rw [h3, h4]
      rfl
theorem l32Meta_eq (t : TType) : b_l32Meta t = some ((t.kind == 1) && isInf t.name) := by
  obtain ⟨k, s, ts⟩ := t
  unfold b_l32Meta
  by_cases hk : k = 1
  · have h0 : (k != 1) = false := by simp [hk]
    have h0' : (k == 1) = true := by simp [hk]
    simp only [h0, h0', cnd_false, Bool.true_and]
    match s with
    | [] => rfl
    | [a] => rfl
    | b0 :: b1 :: l =>
      have h1 : decide (((b0 :: b1 :: l).length : Int) < 2) = false := by simp; omega
      have e0 : at? (b0 :: b1 :: l) 0 = some b0 := rfl
      have e1 : at? (b0 :: b1 :: l) 1 = some b1 := rfl
      rw [h1, e0, e1]
      simp only [cnd_false, bnd, isInf]
      by_cases h2 : b0.toNat = 63
      · have h3 : ((b0.toNat : Int) != 63) = false := by simp [h2]
        have h4 : (b0.toNat == 63) = true := by simp [h2]
        rw [h3, h4]
        simp only [cnd_false, Bool.true_and, List.drop_succ_cons, List.drop_zero, l32Meta_l1_eq]
        by_cases h6 : b1.toNat = 48
        · have h7 : ((b1.toNat : Int) == 48) = true := by simp [h6]
          have h8 : (b1.toNat == 48) = true := by simp [h6]
          rw [h7, h8]
          cases l with
          | nil => simp [cnd]
          | cons b2 l =>
            have h5 : decide (((b0 :: b1 :: b2 :: l).length : Int) > 2) = true := by simp; omega
            rw [h5]
            rfl
        · have h7 : ((b1.toNat : Int) == 48) = false := by simp; omega
          have h8 : (b1.toNat == 48) = false := by simp [h6]
          rw [h7, h8]
          simp [cnd]
      · have h3 : ((b0.toNat : Int) != 63) = true := by simp; omega
        have h4 : (b0.toNat == 63) = false := by simp [h2]
        rw [h3, h4]
        rfl
  · have h0 : (k != 1) = true := by simp [hk]
    have h0' : (k == 1) = false := by simp [hk]
    simp only [h0, h0']
    rfl

end Go.Proofs.Ythojhakapbfbiaa
