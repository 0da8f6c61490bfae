/- Um3. Written by a program of mine (aw.py). -/
import Derived.Test.YtdofnoeiogjpjaaFacts
import Derived.Test.YtdofnoeiogjpjaaUn1
set_option linter.unusedVariables false
set_option linter.unusedSimpArgs false
set_option linter.unusedSectionVars false
namespace Go.Proofs.Ytdofnoeiogjpjaa
open Go Go.Eng
attribute [local irreducible] V VO VQ VY Quiet QR SpecP SpecO MSpec Rng PostP PostO PostG
def b_IndexS_l1 (a1 : List UInt8) : List (List UInt8) → Nat → Int
  | [], y1 => (-1)
  | x4 :: xs, y1 => (cnd (a1 == x4) (
(y1 : Int)) (
b_IndexS_l1 a1 xs (y1 + 1)))
def b_IndexS (a0 : List (List UInt8)) (a1 : List UInt8) : Int :=
b_IndexS_l1 a1 a0 0
set_option maxHeartbeats 4000000 in
theorem w_IndexS (a0 : List (List UInt8)) (a1 : List UInt8) : SpecP Try.prog 65 [.d (.sl 1 (eStrs a0)), .d (.s a1)] [.i .i64 (b_IndexS a0 a1)] := by
  obtain ⟨r, h⟩ : ∃ r, b_IndexS a0 a1 = r := ⟨_, rfl⟩
  rw [h]
  unfold b_IndexS at h
  refine SpecP_intro Try.func65 rfl (by kernel_rfl) rfl fun A _ => ?_
  refine goL ?_
  refine V_block ?_
  show V _ _ _ _ _
  refine V_bd 0 (fun z2 => ?_)
  refine V_loop1 (fun (y1 : Nat) => ⟨[(0, .d (.sl 1 (eStrs a0))), (1, .d (.s a1)), (7, .d (.i .i64 (a0.length : Int))), (8, .d (.i .i64 (y1 : Int)))], [], Try.f65.ntmps⟩) (fun y1 => b_IndexS_l1 a1 (a0.drop y1) y1 = r) (fun y1 => a0.length - y1) 0 ⟨rfl, ⟨⟨rfl, rfl⟩, ⟨rfl, rfl⟩, ⟨rfl, rfl⟩, ⟨rfl, rfl⟩, trivial⟩, ⟨[], rfl⟩, rfl⟩ h ?_
  rintro y1 h
  refine goL ?_
  refine V_seq (V_cb (fun c3 => ?_) (fun c3 => ?_))
  · have hky12 := kltN c3
    obtain ⟨x4, hx4, hdx4⟩ := drop_at hky12
    rw [hdx4, b_IndexS_l1.eq_2] at h
    refine V_skip ?_
    show V _ _ _ _ _
    refine V_seq (V_block ?_)
    refine goL ?_
    refine VO_r (QR_ixn y1 (gStr hx4)) ?_
    refine goL ?_
    refine V_cb (fun c5 => ?_) (fun c5 => ?_)
    · replace h := cnd_t c5 h
      refine goL ?_
      refine V_ret ?_
      subst h
      exact R_rP
    · replace h := cnd_f c5 h
      refine V_skip ?_
      show V _ _ _ _ _
      refine goL ?_
      refine VO_r (QR_inc y1 (by omega)) ?_
      refine goL ?_
      exact ⟨(y1 + 1), h, by omega, ⟨rfl, ⟨⟨rfl, rfl⟩, ⟨rfl, rfl⟩, ⟨rfl, rfl⟩, ⟨rfl, rfl⟩, trivial⟩, ⟨_, rfl⟩, rfl⟩⟩
  · have hky12 := kgeN c3
    rw [drop_end hky12, b_IndexS_l1.eq_1] at h
    refine V_exit ?_
    show V _ _ _ _ _
    refine goL ?_
    refine V_ret ?_
    subst h
    exact R_rP
def b_ContainsS (a0 : List (List UInt8)) (a1 : List UInt8) : Bool :=
(decide ((b_IndexS a0 a1) ≥ 0))
set_option maxHeartbeats 4000000 in
theorem w_ContainsS (a0 : List (List UInt8)) (a1 : List UInt8) : SpecP Try.prog 45 [.d (.sl 1 (eStrs a0)), .d (.s a1)] [.b (b_ContainsS a0 a1)] := by
  obtain ⟨r, h⟩ : ∃ r, b_ContainsS a0 a1 = r := ⟨_, rfl⟩
  rw [h]
  unfold b_ContainsS at h
  refine SpecP_intro Try.func45 rfl (by kernel_rfl) rfl fun A _ => ?_
  refine goL ?_
  refine VO_r (QR_call (w_IndexS a0 a1)) ?_
  refine goL ?_
  refine V_ret ?_
  subst h
  exact R_rP
def b_varsOf1 (u : TType) (l1 : List (List UInt8)) : Option (List (List UInt8)) :=
lt_ ((cnd (u.kind == 1) ((!(b_ContainsS l1 u.name))) (false))) fun b1 =>
(cnd b1 (
gd (l1.length + [u.name].length ≤ 4294967296) (
(some (l1 ++ [u.name])))) (
(some l1)))
set_option maxHeartbeats 4000000 in
theorem w_varsOf1 (u : TType) (l1 : List (List UInt8)) (v1 : Nat) {r : List (List UInt8)} (h : b_varsOf1 u l1 = some r) : Go.Eng.Spec Try.prog 64 [.d (eType u), .ptr 0 0] [.box [.sl 1 v1], .own 9 1 v1 (eStrs l1)] (fun sv Lo => ∃ v'1, sv = .tup [] ∧ Lo = [.box [.sl 1 v'1], .own 9 1 v'1 (eStrs r)]) := by
  obtain ⟨u_0, u_1, u_2⟩ := u
  unfold b_varsOf1 at h
  refine Spec_intro 2 Try.func64 rfl (by kernel_rfl) rfl rfl fun A _ => ?_
  refine goL ?_
  obtain ⟨b1, hb1, h⟩ := lt_x h
  refine VO_join ⟨[(1, .ptr 0 0), (2, .ptr 2 0), (12, .d (.b b1))], [.box [.sl 1 v1], .own 9 1 v1 (eStrs l1), .box [.d (.i .i64 u_0), .d (.s u_1), .d (.sl 3 (eTypes u_2))]], Try.f64.ntmps⟩ ?_ ?_
  · refine VO_case 6 (fun c2 => ?_) (fun c2 => ?_)
    · replace hb1 := cnd_t c2 hb1
      refine goL ?_
      refine VO_b ?_
      refine VO_k (Q_cb (w_ContainsS l1 u_1)) ?_
      refine goL ?_
      cases hb1
      exact ⟨rfl, ⟨⟨rfl, rfl⟩, ⟨rfl, rfl⟩, ⟨rfl, rfl⟩, trivial⟩, ⟨[], rfl⟩, rfl⟩
    · replace hb1 := cnd_f c2 hb1
      refine goL ?_
      cases hb1
      exact ⟨rfl, ⟨⟨rfl, rfl⟩, ⟨rfl, rfl⟩, ⟨rfl, rfl⟩, trivial⟩, ⟨[], rfl⟩, rfl⟩
  refine goL ?_
  refine V_cb (fun c3 => ?_) (fun c3 => ?_)
  · replace h := cnd_t c3 h
    refine goL ?_
    refine VO_l1t u_1 ?_
    obtain ⟨g4, h⟩ := gd_s h
    refine VO_ap g4 ?_
    refine goL ?_
    replace h := Option.some.inj h
    subst h
    exact N_rH [] [.box [.sl 1 (v1 + 1)], .own 9 1 (v1 + 1) (eStrs (l1 ++ [u_1]))] ⟨(v1 + 1), rfl, rfl⟩
  · replace h := cnd_f c3 h
    refine V_skip ?_
    show PostG _ _ _ _ _ _
    replace h := Option.some.inj h
    subst h
    exact N_rH [] [.box [.sl 1 v1], .own 9 1 v1 (eStrs l1)] ⟨v1, rfl, rfl⟩
def b_eachVars_l1 (rec_eachVars : TType → (List (List UInt8)) → Option (List (List UInt8))) : List TType → (List (List UInt8)) → Option (List (List UInt8))
  | [], y3 => (some y3)
  | x8 :: xs, y3 => bnd (rec_eachVars x8 y3) fun x9 =>
b_eachVars_l1 rec_eachVars xs x9
def b_eachVars (rec_eachVars : TType → (List (List UInt8)) → Option (List (List UInt8))) (u : TType) (l1 : List (List UInt8)) : Option (List (List UInt8)) :=
bnd (b_varsOf1 u l1) fun x1 =>
b_eachVars_l1 rec_eachVars u.args x1
set_option maxHeartbeats 4000000 in
theorem w_eachVars {rec_eachVars : TType → (List (List UInt8)) → Option (List (List UInt8))} (hrec_eachVars : ∀ (x0 : TType) (x1 : List (List UInt8)) (w0 : Nat) {r : List (List UInt8)}, rec_eachVars x0 x1 = some r → Go.Eng.Spec Try.prog 52 [.d (eType x0), .fn 64 [.ptr 0 0]] [.box [.sl 1 w0], .own 9 1 w0 (eStrs x1)] (fun sv Lo => ∃ v'1, sv = .tup [] ∧ Lo = [.box [.sl 1 v'1], .own 9 1 v'1 (eStrs r)])) (u : TType) (l1 : List (List UInt8)) (v1 : Nat) {r : List (List UInt8)} (h : b_eachVars rec_eachVars u l1 = some r) : Go.Eng.Spec Try.prog 52 [.d (eType u), .fn 64 [.ptr 0 0]] [.box [.sl 1 v1], .own 9 1 v1 (eStrs l1)] (fun sv Lo => ∃ v'1, sv = .tup [] ∧ Lo = [.box [.sl 1 v'1], .own 9 1 v'1 (eStrs r)]) := by
  obtain ⟨u_0, u_1, u_2⟩ := u
  unfold b_eachVars at h
  refine Spec_intro 2 Try.func52 rfl (by kernel_rfl) rfl rfl fun A _ => ?_
  refine goL ?_
  obtain ⟨x1, hx1, h⟩ := bnd_s h
  refine VO_cG [0, 1] (w_varsOf1 (TType.mk u_0 u_1 u_2) l1 v1 hx1) ?_
  rintro _ _ ⟨v2, rfl, rfl⟩
  show VO _ _ _ _ ⟨(_, .tup []) :: _, [.box [.sl 1 v2], .own 9 1 v2 (eStrs x1), .box [.d (.i .i64 u_0), .d (.s u_1), .d (.sl 3 (eTypes u_2))]], _⟩ _
  refine goL ?_
  refine V_block ?_
  show V _ _ _ _ _
  refine V_bd 10 (fun z6 => ?_)
  refine V_loop3 (fun (y5 : Nat) (y3 : List (List UInt8)) (v4 : Nat) => ⟨[(1, .fn 64 [.ptr 0 0]), (10, .d (.sl 3 (eTypes u_2))), (11, .d (.i .i64 (u_2.length : Int))), (12, .d (.i .i64 (y5 : Int)))], [.box [.sl 1 v4], .own 9 1 v4 (eStrs y3), .box [.d (.i .i64 u_0), .d (.s u_1), .d (.sl 3 (eTypes u_2))]], Try.f52.ntmps⟩) (fun y5 y3 v4 => b_eachVars_l1 rec_eachVars (u_2.drop y5) y3 = some r) (fun y5 y3 v4 => u_2.length - y5) 0 x1 v2 ⟨rfl, ⟨⟨rfl, rfl⟩, ⟨rfl, rfl⟩, ⟨rfl, rfl⟩, ⟨rfl, rfl⟩, trivial⟩, ⟨[], rfl⟩, rfl⟩ h ?_
  rintro y5 y3 v4 h
  refine goL ?_
  refine V_seq (V_cb (fun c7 => ?_) (fun c7 => ?_))
  · have hky52 := kltN c7
    obtain ⟨x8, hx8, hdx8⟩ := drop_at hky52
    rw [hdx8, b_eachVars_l1.eq_2] at h
    obtain ⟨x8_0, x8_1, x8_2⟩ := x8
    refine V_skip ?_
    show V _ _ _ _ _
    refine V_seq (V_block ?_)
    refine goL ?_
    refine VO_r (QR_ixn y5 (gType hx8)) ?_
    refine goL ?_
    obtain ⟨x9, hx9, h⟩ := bnd_s h
    refine VO_cG [0, 1] (hrec_eachVars (TType.mk x8_0 x8_1 x8_2) y3 v4 hx9) ?_
    rintro _ _ ⟨v10, rfl, rfl⟩
    show VO _ _ _ _ ⟨(_, .tup []) :: _, [.box [.sl 1 v10], .own 9 1 v10 (eStrs x9), .box [.d (.i .i64 u_0), .d (.s u_1), .d (.sl 3 (eTypes u_2))], .box [.d (.i .i64 x8_0), .d (.s x8_1), .d (.sl 3 (eTypes x8_2))]], _⟩ _
    refine goL ?_
    refine VO_r (QR_inc y5 (by omega)) ?_
    refine goL ?_
    exact ⟨(y5 + 1), x9, v10, h, by omega, ⟨rfl, ⟨⟨rfl, rfl⟩, ⟨rfl, rfl⟩, ⟨rfl, rfl⟩, ⟨rfl, rfl⟩, trivial⟩, ⟨_, rfl⟩, rfl⟩⟩
  · have hky52 := kgeN c7
    rw [drop_end hky52, b_eachVars_l1.eq_1] at h
    refine V_exit ?_
    show PostG _ _ _ _ _ _
    replace h := Option.some.inj h
    subst h
    exact N_rH [] [.box [.sl 1 v4], .own 9 1 v4 (eStrs y3)] ⟨v4, rfl, rfl⟩
def m_eachVars : Nat → TType → (List (List UInt8)) → Option (List (List UInt8))
  | 0, _, _ => none
  | n + 1, x0, x1 => b_eachVars (m_eachVars n) x0 x1
theorem s_eachVars : ∀ (n : Nat) (x0 : TType) (x1 : List (List UInt8)) (w0 : Nat) {r : List (List UInt8)}, m_eachVars n x0 x1 = some r → Go.Eng.Spec Try.prog 52 [.d (eType x0), .fn 64 [.ptr 0 0]] [.box [.sl 1 w0], .own 9 1 w0 (eStrs x1)] (fun sv Lo => ∃ v'1, sv = .tup [] ∧ Lo = [.box [.sl 1 v'1], .own 9 1 v'1 (eStrs r)]) := by
  intro n
  induction n with
  | zero => intro x0 x1 w0 r h; cases h
  | succ n ih => intro x0 x1 w0 r h; exact w_eachVars ih x0 x1 w0 h
/-! ### the variables of a type, by hand -/
def addVar (k : Int) (n : List UInt8) (l : List (List UInt8)) : List (List UInt8) := if k = 1 ∧ n ∉ l then l ++ [n] else l
mutual
def varsT : TType → List (List UInt8) → List (List UInt8)
  | ⟨k, n, ts⟩, l => varsTs ts (addVar k n l)
def varsTs : List TType → List (List UInt8) → List (List UInt8)
  | [], l => l
  | a :: ts, l => varsTs ts (varsT a l)
end
theorem addVar_len (k : Int) (n : List UInt8) (l : List (List UInt8)) : (addVar k n l).length ≤ l.length + 1 := by
  unfold addVar
  split
  · simp
  · omega
mutual
theorem varsT_len : ∀ (t : TType) (l : List (List UInt8)), (varsT t l).length ≤ l.length + tnd t
  | ⟨k, n, ts⟩, l => by
    simp only [varsT, tnd]
    have h1 := varsTs_len ts (addVar k n l)
    have h2 := addVar_len k n l
    omega
theorem varsTs_len : ∀ (ts : List TType) (l : List (List UInt8)), (varsTs ts l).length ≤ l.length + tnds ts
  | [], l => by simp [varsTs]
  | a :: ts, l => by
    simp only [varsTs, tnds]
    have h1 := varsTs_len ts (varsT a l)
    have h2 := varsT_len a l
    omega
end
theorem IndexS_pos (a : List UInt8) : ∀ (l : List (List UInt8)) (k : Nat), 0 ≤ b_IndexS_l1 a l k ↔ a ∈ l
  | [], k => by simp [b_IndexS_l1]
  | x :: l, k => by
    by_cases h : a = x
    · subst h
      simp [b_IndexS_l1, cnd]
    · have h1 : (a == x) = false := by simpa using h
      have h2 : b_IndexS_l1 a (x :: l) k = b_IndexS_l1 a l (k + 1) := by simp [b_IndexS_l1, h1, cnd]
      rw [h2, IndexS_pos a l (k + 1)]
      simp [h]
theorem ContainsS_eq (l : List (List UInt8)) (a : List UInt8) : b_ContainsS l a = decide (a ∈ l) := by
  unfold b_ContainsS b_IndexS
  exact decide_eq_decide.2 (IndexS_pos a l 0)
theorem varsOf1_eq (u : TType) (l : List (List UInt8)) (h : l.length + 1 ≤ 4294967296) : b_varsOf1 u l = some (addVar u.kind u.name l) := by
  unfold b_varsOf1 lt_ addVar
  rw [ContainsS_eq]
  by_cases h1 : u.kind = 1
  · by_cases h2 : u.name ∈ l
    · simp [h1, h2, cnd]
    · simp only [h1, h2, decide_false, Bool.not_false, beq_self_eq_true, cnd_true, not_false_eq_true, and_self, if_true]
      rw [gd_eq (by simpa using h)]
  · have : (u.kind == 1) = false := by simpa using h1
    simp [this, h1, cnd]
theorem eachVars_l1_eq {n : Nat} (ih : ∀ (t : TType) (l : List (List UInt8)), tnd t ≤ n → l.length + tnd t ≤ 4294967296 → m_eachVars n t l = some (varsT t l)) :
    ∀ (xs : List TType) (l : List (List UInt8)), tnds xs ≤ n → l.length + tnds xs ≤ 4294967296 → b_eachVars_l1 (m_eachVars n) xs l = some (varsTs xs l)
  | [], l, _, _ => by simp [b_eachVars_l1, varsTs]
  | x :: xs, l, h1, h2 => by
    simp only [tnds] at h1 h2
    simp only [b_eachVars_l1, varsTs]
    rw [ih x l (by omega) (by omega)]
    have := varsT_len x l
    exact eachVars_l1_eq ih xs _ (by omega) (by omega)
theorem eachVars_eq : ∀ (n : Nat) (t : TType) (l : List (List UInt8)), tnd t ≤ n → l.length + tnd t ≤ 4294967296 → m_eachVars n t l = some (varsT t l)
  | 0, ⟨k, nm, ts⟩, l, h, _ => by simp only [tnd] at h; omega
  | n + 1, ⟨k, nm, ts⟩, l, h1, h2 => by
    simp only [tnd] at h1 h2
    simp only [m_eachVars, b_eachVars, varsT]
    rw [varsOf1_eq _ _ (by omega)]
    have := addVar_len k nm l
    exact eachVars_l1_eq (eachVars_eq n) ts (addVar k nm l) (by omega) (by omega)

theorem t_eachVars (x0 : TType) (x1 : List (List UInt8)) (w0 : Nat) (h : x1.length + tnd x0 ≤ 4294967296) : Go.Eng.Spec Try.prog 52 [.d (eType x0), .fn 64 [.ptr 0 0]] [.box [.sl 1 w0], .own 9 1 w0 (eStrs x1)] (fun sv Lo => ∃ v'1, sv = .tup [] ∧ Lo = [.box [.sl 1 v'1], .own 9 1 v'1 (eStrs (varsT x0 x1))]) := s_eachVars (tnd x0) x0 x1 w0 (eachVars_eq _ _ _ (Nat.le_refl _) h)
def b_variablesOf_l1 : List TType → (List (List UInt8)) → Option (List (List UInt8))
  | [], y1 => (some y1)
  | x6 :: xs, y1 => gd (y1.length + tnd x6 ≤ 4294967296) (lt_ (varsT x6 y1) fun x7 =>
b_variablesOf_l1 xs x7)
def b_variablesOf (a0 : List TType) : Option (List (List UInt8)) :=
b_variablesOf_l1 a0 []
set_option maxHeartbeats 4000000 in
theorem w_variablesOf (a0 : List TType) {r : List (List UInt8)} (h : b_variablesOf a0 = some r) : SpecP Try.prog 44 [.d (.sl 3 (eTypes a0))] [.sl 1 (eStrs r)] := by
  unfold b_variablesOf at h
  refine SpecP_intro Try.func44 rfl (by kernel_rfl) rfl fun A _ => ?_
  refine goL ?_
  refine VO_l0 ?_
  refine goL ?_
  refine V_block ?_
  show V _ _ _ _ _
  refine V_bd 7 (fun z4 => ?_)
  refine V_loop3 (fun (y3 : Nat) (y1 : List (List UInt8)) (v2 : Nat) => ⟨[(3, .ptr 1 0), (7, .d (.sl 3 (eTypes a0))), (8, .d (.i .i64 (a0.length : Int))), (9, .d (.i .i64 (y3 : Int)))], [.own 9 1 v2 (eStrs y1), .box [.sl 0 v2]], Try.f44.ntmps⟩) (fun y3 y1 v2 => b_variablesOf_l1 (a0.drop y3) y1 = some r) (fun y3 y1 v2 => a0.length - y3) 0 [] 0 ⟨rfl, ⟨⟨rfl, rfl⟩, ⟨rfl, rfl⟩, ⟨rfl, rfl⟩, ⟨rfl, rfl⟩, trivial⟩, ⟨[], rfl⟩, rfl⟩ h ?_
  rintro y3 y1 v2 h
  refine goL ?_
  refine V_seq (V_cb (fun c5 => ?_) (fun c5 => ?_))
  · have hky32 := kltN c5
    obtain ⟨x6, hx6, hdx6⟩ := drop_at hky32
    rw [hdx6, b_variablesOf_l1.eq_2] at h
    obtain ⟨x6_0, x6_1, x6_2⟩ := x6
    refine V_skip ?_
    show V _ _ _ _ _
    refine V_seq (V_block ?_)
    refine goL ?_
    refine VO_r (QR_ixn y3 (gType hx6)) ?_
    refine goL ?_
    refine VO_r (QR_fn) ?_
    obtain ⟨g8, h⟩ := gd_s h
    obtain ⟨x7, hx7, h⟩ := lt_x h
    have sx7 := t_eachVars (TType.mk x6_0 x6_1 x6_2) y1 v2 g8
    rw [hx7] at sx7
    refine VO_cG [1, 0] (sx7) ?_
    rintro _ _ ⟨v9, rfl, rfl⟩
    show VO _ _ _ _ ⟨(_, .tup []) :: _, [.own 9 1 v9 (eStrs x7), .box [.sl 0 v9], .box [.d (.i .i64 x6_0), .d (.s x6_1), .d (.sl 3 (eTypes x6_2))]], _⟩ _
    refine goL ?_
    refine VO_r (QR_inc y3 (by omega)) ?_
    refine goL ?_
    exact ⟨(y3 + 1), x7, v9, h, by omega, ⟨rfl, ⟨⟨rfl, rfl⟩, ⟨rfl, rfl⟩, ⟨rfl, rfl⟩, ⟨rfl, rfl⟩, trivial⟩, ⟨_, rfl⟩, rfl⟩⟩
  · have hky32 := kgeN c5
    rw [drop_end hky32, b_variablesOf_l1.eq_1] at h
    refine V_exit ?_
    show V _ _ _ _ _
    refine goL ?_
    refine V_freezeO 0 rfl rfl ?_
    refine V_ret ?_
    replace h := Option.some.inj h
    subst h
    exact R_rP
end Go.Proofs.Ytdofnoeiogjpjaa
set_option linter.unusedVariables false
set_option linter.unusedSimpArgs false
set_option linter.unusedSectionVars false
namespace Go.Proofs.Ytdofnoeiogjpjaa
open Go Go.Eng
attribute [local irreducible] V VO VQ VY Quiet QR SpecP SpecO MSpec Rng PostP PostO PostG
def b_l1Has_l1 (a1 : List UInt8) : List (List UInt8) → Bool
  | [] => false
  | x4 :: xs => (cnd (x4 == a1) (
true) (
b_l1Has_l1 a1 xs ))
def b_l1Has (a0 : List (List UInt8)) (a1 : List UInt8) : Bool :=
b_l1Has_l1 a1 a0 
set_option maxHeartbeats 4000000 in
theorem w_l1Has (a0 : List (List UInt8)) (a1 : List UInt8) : SpecP Try.prog 39 [.d (.sl 1 (eStrs a0)), .d (.s a1)] [.b (b_l1Has a0 a1)] := by
  obtain ⟨r, h⟩ : ∃ r, b_l1Has a0 a1 = r := ⟨_, rfl⟩
  rw [h]
  unfold b_l1Has at h
  refine SpecP_intro Try.func39 rfl (by kernel_rfl) rfl fun A _ => ?_
  refine goL ?_
  refine V_block ?_
  show V _ _ _ _ _
  refine V_bd 0 (fun z2 => ?_)
  refine V_loop1 (fun (y1 : Nat) => ⟨[(0, .d (.sl 1 (eStrs a0))), (1, .d (.s a1)), (5, .d (.i .i64 (y1 : Int)))], [], Try.f39.ntmps⟩) (fun y1 => b_l1Has_l1 a1 (a0.drop y1)  = r) (fun y1 => a0.length - y1) 0 ⟨rfl, ⟨⟨rfl, rfl⟩, ⟨rfl, rfl⟩, ⟨rfl, rfl⟩, trivial⟩, ⟨[], rfl⟩, rfl⟩ h ?_
  rintro y1 h
  refine goL ?_
  refine V_cb (fun c3 => ?_) (fun c3 => ?_)
  · have hky12 := kltN c3
    obtain ⟨x4, hx4, hdx4⟩ := drop_at hky12
    rw [hdx4, b_l1Has_l1.eq_2] at h
    refine V_skip ?_
    show V _ _ _ _ _
    refine V_seq (V_block ?_)
    refine goL ?_
    refine VO_r (QR_ixn y1 (gStr hx4)) ?_
    refine goL ?_
    refine V_cb (fun c5 => ?_) (fun c5 => ?_)
    · replace h := cnd_t c5 h
      refine goL ?_
      refine V_ret ?_
      subst h
      exact R_rP
    · replace h := cnd_f c5 h
      refine V_skip ?_
      show V _ _ _ _ _
      refine goL ?_
      refine VO_r (QR_inc y1 (by omega)) ?_
      refine goL ?_
      exact ⟨(y1 + 1), h, by omega, ⟨rfl, ⟨⟨rfl, rfl⟩, ⟨rfl, rfl⟩, ⟨rfl, rfl⟩, trivial⟩, ⟨_, rfl⟩, rfl⟩⟩
  · have hky12 := kgeN c3
    rw [drop_end hky12, b_l1Has_l1.eq_1] at h
    refine V_exit ?_
    show V _ _ _ _ _
    refine goL ?_
    refine V_ret ?_
    subst h
    exact R_rP
def b_l4Vars_l1 (rec_l4Vars : TType → (List (List UInt8)) → Option (List (List UInt8))) : List TType → (List (List UInt8)) → Option (List (List UInt8))
  | [], y5 => (some y5)
  | x10 :: xs, y5 => bnd (rec_l4Vars x10 y5) fun x11 =>
b_l4Vars_l1 rec_l4Vars xs x11
def b_l4Vars_l2 (rec_l4Vars : TType → (List (List UInt8)) → Option (List (List UInt8))) : List TType → (List (List UInt8)) → Option (List (List UInt8))
  | [], y13 => (some y13)
  | x18 :: xs, y13 => bnd (rec_l4Vars x18 y13) fun x19 =>
b_l4Vars_l2 rec_l4Vars xs x19
def b_l4Vars (rec_l4Vars : TType → (List (List UInt8)) → Option (List (List UInt8))) (t : TType) (l0 : List (List UInt8)) : Option (List (List UInt8)) :=
lt_ ((cnd (t.kind == 1) ((!(b_l1Has l0 t.name))) (false))) fun b1 =>
(cnd b1 (
gd (l0.length + [t.name].length ≤ 4294967296) (
b_l4Vars_l1 rec_l4Vars t.args (l0 ++ [t.name]))) (
b_l4Vars_l2 rec_l4Vars t.args l0))
set_option maxHeartbeats 4000000 in
theorem w_l4Vars {rec_l4Vars : TType → (List (List UInt8)) → Option (List (List UInt8))} (hrec_l4Vars : ∀ (x0 : TType) (x1 : List (List UInt8)) (w0 : Nat) {r : List (List UInt8)}, rec_l4Vars x0 x1 = some r → Go.Eng.Spec Try.prog 22 [.d (eType x0), .sl 0 w0] [.own 9 1 w0 (eStrs x1)] (fun sv Lo => ∃ v'0, sv = .sl 0 v'0 ∧ Lo = [.own 9 1 v'0 (eStrs r)])) (t : TType) (l0 : List (List UInt8)) (v0 : Nat) {r : List (List UInt8)} (h : b_l4Vars rec_l4Vars t l0 = some r) : Go.Eng.Spec Try.prog 22 [.d (eType t), .sl 0 v0] [.own 9 1 v0 (eStrs l0)] (fun sv Lo => ∃ v'0, sv = .sl 0 v'0 ∧ Lo = [.own 9 1 v'0 (eStrs r)]) := by
  obtain ⟨t_0, t_1, t_2⟩ := t
  unfold b_l4Vars at h
  refine Spec_intro 1 Try.func22 rfl (by kernel_rfl) rfl rfl fun A _ => ?_
  refine goL ?_
  obtain ⟨b1, hb1, h⟩ := lt_x h
  refine VO_join ⟨[(1, .sl 0 v0), (2, .ptr 1 0), (15, .d (.b b1))], [.own 9 1 v0 (eStrs l0), .box [.d (.i .i64 t_0), .d (.s t_1), .d (.sl 3 (eTypes t_2))]], Try.f22.ntmps⟩ ?_ ?_
  · refine VO_case 9 (fun c2 => ?_) (fun c2 => ?_)
    · replace hb1 := cnd_t c2 hb1
      refine goL ?_
      refine VO_b ?_
      refine VO_k (Q_cb (w_l1Has l0 t_1)) ?_
      refine goL ?_
      cases hb1
      exact ⟨rfl, ⟨⟨rfl, rfl⟩, ⟨rfl, rfl⟩, ⟨rfl, rfl⟩, trivial⟩, ⟨[], rfl⟩, rfl⟩
    · replace hb1 := cnd_f c2 hb1
      refine goL ?_
      cases hb1
      exact ⟨rfl, ⟨⟨rfl, rfl⟩, ⟨rfl, rfl⟩, ⟨rfl, rfl⟩, trivial⟩, ⟨[], rfl⟩, rfl⟩
  refine goL ?_
  refine V_cb (fun c3 => ?_) (fun c3 => ?_)
  · replace h := cnd_t c3 h
    refine goL ?_
    refine VO_l1t t_1 ?_
    obtain ⟨g4, h⟩ := gd_s h
    refine VO_ap g4 ?_
    refine goL ?_
    refine V_block ?_
    show V _ _ _ _ _
    refine V_bdc 1 2 (fun z8 => ?_)
    refine V_loop3 (fun (y7 : Nat) (y5 : List (List UInt8)) (v6 : Nat) => ⟨[(1, .sl 0 v6), (2, .ptr 1 0), (5, .d (.i .i64 (y7 : Int)))], [.own 9 1 v6 (eStrs y5), .box [.d (.i .i64 t_0), .d (.s t_1), .d (.sl 3 (eTypes t_2))], .dead 1], Try.f22.ntmps⟩) (fun y7 y5 v6 => b_l4Vars_l1 rec_l4Vars (t_2.drop y7) y5 = some r) (fun y7 y5 v6 => t_2.length - y7) 0 (l0 ++ [t_1]) (v0 + 1) ⟨rfl, ⟨⟨rfl, rfl⟩, ⟨rfl, rfl⟩, ⟨rfl, rfl⟩, trivial⟩, ⟨[], rfl⟩, rfl⟩ h ?_
    rintro y7 y5 v6 h
    refine goL ?_
    refine V_cb (fun c9 => ?_) (fun c9 => ?_)
    · have hky72 := kltN c9
      obtain ⟨x10, hx10, hdx10⟩ := drop_at hky72
      rw [hdx10, b_l4Vars_l1.eq_2] at h
      obtain ⟨x10_0, x10_1, x10_2⟩ := x10
      refine V_skip ?_
      show V _ _ _ _ _
      refine V_seq (V_block ?_)
      refine goL ?_
      refine VO_r (QR_ixn y7 (gType hx10)) ?_
      refine goL ?_
      obtain ⟨x11, hx11, h⟩ := bnd_s h
      refine VO_cG [0] (hrec_l4Vars (TType.mk x10_0 x10_1 x10_2) y5 v6 hx11) ?_
      rintro _ _ ⟨v12, rfl, rfl⟩
      show VO _ _ _ _ ⟨(_, .sl 0 v12) :: _, [.own 9 1 v12 (eStrs x11), .box [.d (.i .i64 t_0), .d (.s t_1), .d (.sl 3 (eTypes t_2))], .dead 1], _⟩ _
      refine goL ?_
      refine VO_r (QR_inc y7 (by omega)) ?_
      refine goL ?_
      exact ⟨(y7 + 1), x11, v12, h, by omega, ⟨rfl, ⟨⟨rfl, rfl⟩, ⟨rfl, rfl⟩, ⟨rfl, rfl⟩, trivial⟩, ⟨_, rfl⟩, rfl⟩⟩
    · have hky72 := kgeN c9
      rw [drop_end hky72, b_l4Vars_l1.eq_1] at h
      refine V_exit ?_
      show V _ _ _ _ _
      refine goL ?_
      refine V_ret ?_
      replace h := Option.some.inj h
      subst h
      exact R_rH [.sl 0 v6] [.own 9 1 v6 (eStrs y5)] ⟨v6, rfl, rfl⟩
  · replace h := cnd_f c3 h
    refine V_skip ?_
    show V _ _ _ _ _
    refine goL ?_
    refine V_block ?_
    show V _ _ _ _ _
    refine V_bdc 1 2 (fun z16 => ?_)
    refine V_loop3 (fun (y15 : Nat) (y13 : List (List UInt8)) (v14 : Nat) => ⟨[(1, .sl 0 v14), (2, .ptr 1 0), (5, .d (.i .i64 (y15 : Int)))], [.own 9 1 v14 (eStrs y13), .box [.d (.i .i64 t_0), .d (.s t_1), .d (.sl 3 (eTypes t_2))]], Try.f22.ntmps⟩) (fun y15 y13 v14 => b_l4Vars_l2 rec_l4Vars (t_2.drop y15) y13 = some r) (fun y15 y13 v14 => t_2.length - y15) 0 l0 v0 ⟨rfl, ⟨⟨rfl, rfl⟩, ⟨rfl, rfl⟩, ⟨rfl, rfl⟩, trivial⟩, ⟨[], rfl⟩, rfl⟩ h ?_
    rintro y15 y13 v14 h
    refine goL ?_
    refine V_cb (fun c17 => ?_) (fun c17 => ?_)
    · have hky152 := kltN c17
      obtain ⟨x18, hx18, hdx18⟩ := drop_at hky152
      rw [hdx18, b_l4Vars_l2.eq_2] at h
      obtain ⟨x18_0, x18_1, x18_2⟩ := x18
      refine V_skip ?_
      show V _ _ _ _ _
      refine V_seq (V_block ?_)
      refine goL ?_
      refine VO_r (QR_ixn y15 (gType hx18)) ?_
      refine goL ?_
      obtain ⟨x19, hx19, h⟩ := bnd_s h
      refine VO_cG [0] (hrec_l4Vars (TType.mk x18_0 x18_1 x18_2) y13 v14 hx19) ?_
      rintro _ _ ⟨v20, rfl, rfl⟩
      show VO _ _ _ _ ⟨(_, .sl 0 v20) :: _, [.own 9 1 v20 (eStrs x19), .box [.d (.i .i64 t_0), .d (.s t_1), .d (.sl 3 (eTypes t_2))]], _⟩ _
      refine goL ?_
      refine VO_r (QR_inc y15 (by omega)) ?_
      refine goL ?_
      exact ⟨(y15 + 1), x19, v20, h, by omega, ⟨rfl, ⟨⟨rfl, rfl⟩, ⟨rfl, rfl⟩, ⟨rfl, rfl⟩, trivial⟩, ⟨_, rfl⟩, rfl⟩⟩
    · have hky152 := kgeN c17
      rw [drop_end hky152, b_l4Vars_l2.eq_1] at h
      refine V_exit ?_
      show V _ _ _ _ _
      refine goL ?_
      refine V_ret ?_
      replace h := Option.some.inj h
      subst h
      exact R_rH [.sl 0 v14] [.own 9 1 v14 (eStrs y13)] ⟨v14, rfl, rfl⟩
def m_l4Vars : Nat → TType → (List (List UInt8)) → Option (List (List UInt8))
  | 0, _, _ => none
  | n + 1, x0, x1 => b_l4Vars (m_l4Vars n) x0 x1
theorem s_l4Vars : ∀ (n : Nat) (x0 : TType) (x1 : List (List UInt8)) (w0 : Nat) {r : List (List UInt8)}, m_l4Vars n x0 x1 = some r → Go.Eng.Spec Try.prog 22 [.d (eType x0), .sl 0 w0] [.own 9 1 w0 (eStrs x1)] (fun sv Lo => ∃ v'0, sv = .sl 0 v'0 ∧ Lo = [.own 9 1 v'0 (eStrs r)]) := by
  intro n
  induction n with
  | zero => intro x0 x1 w0 r h; cases h
  | succ n ih => intro x0 x1 w0 r h; exact w_l4Vars ih x0 x1 w0 h
/-! ### the variables of a type, the reference's way -/
theorem l1Has_l1 (a : List UInt8) : ∀ l : List (List UInt8), b_l1Has_l1 a l = decide (a ∈ l)
  | [] => rfl
  | x :: l => by
    simp only [b_l1Has_l1, l1Has_l1 a l]
    by_cases h : x = a
    · subst h; simp [cnd_true]
    · rw [beq_false_of_ne h]
      have h' : ¬ a = x := fun e => h e.symm
      simp [cnd_false, h']
theorem l1Has_eq (l : List (List UInt8)) (a : List UInt8) : b_l1Has l a = decide (a ∈ l) := l1Has_l1 a l
theorem l4Vars_l1 {rec : TType → List (List UInt8) → Option (List (List UInt8))} : ∀ (xs : List TType) (y : List (List UInt8)), (∀ x ∈ xs, ∀ l, l.length + tnd x ≤ 4294967296 → rec x l = some (varsT x l)) → y.length + tnds xs ≤ 4294967296 → b_l4Vars_l1 rec xs y = some (varsTs xs y) ∧ b_l4Vars_l2 rec xs y = some (varsTs xs y)
  | [], y, _, _ => ⟨rfl, rfl⟩
  | x :: xs, y, h, hl => by
    simp only [tnds] at hl
    have h1 := varsT_len x y
    simp only [b_l4Vars_l1, b_l4Vars_l2, varsTs]
    rw [h x (by simp) y (by omega)]
    exact l4Vars_l1 xs _ (fun z hz => h z (by simp [hz])) (by omega)
theorem l4Vars_eq : ∀ (n : Nat) (t : TType) (l : List (List UInt8)), tnd t ≤ n → l.length + tnd t ≤ 4294967296 → m_l4Vars n t l = some (varsT t l)
  | 0, t, l, h, _ => by have := tnd_pos t; omega
  | n + 1, ⟨k, s, ts⟩, l, h, hl => by
    simp only [tnd] at h hl
    have hr : ∀ x ∈ ts, ∀ l, l.length + tnd x ≤ 4294967296 → m_l4Vars n x l = some (varsT x l) := fun x hx l hl => l4Vars_eq n x l (by have := tnd_mem hx; omega) hl
    simp only [m_l4Vars, b_l4Vars, lt_, l1Has_eq, varsT, addVar]
    by_cases hk : k = 1
    · by_cases hs : s ∈ l
      · simp only [hk, hs, beq_self_eq_true, cnd_true, decide_true, Bool.not_true, cnd_false]
        simp only [not_true, and_false, if_false]
        exact (l4Vars_l1 ts l hr (by omega)).2
      · simp only [hk, hs, beq_self_eq_true, cnd_true, decide_false, Bool.not_false]
        simp only [not_false_eq_true, and_self, if_true]
        rw [gd_eq (by simp; omega)]
        exact (l4Vars_l1 ts (l ++ [s]) hr (by simp; omega)).1
    · simp only [beq_false_of_ne hk, cnd_false, hk, false_and, if_false]
      exact (l4Vars_l1 ts l hr (by omega)).2

theorem t_l4Vars (x0 : TType) (x1 : List (List UInt8)) (w0 : Nat) (h : (x1 : List (List UInt8)).length + tnd x0 ≤ 4294967296) : Go.Eng.Spec Try.prog 22 [.d (eType x0), .sl 0 w0] [.own 9 1 w0 (eStrs x1)] (fun sv Lo => ∃ v'0, sv = .sl 0 v'0 ∧ Lo = [.own 9 1 v'0 (eStrs (varsT x0 x1))]) := s_l4Vars (tnd x0) x0 x1 w0 (l4Vars_eq _ _ _ (Nat.le_refl _) h)
def b_sTypeVariables (a0 : TType) : Option (List (List UInt8)) :=
gd (([] : List (List UInt8)).length + tnd a0 ≤ 4294967296) (lt_ (varsT a0 []) fun x1 =>
(some x1))
set_option maxHeartbeats 4000000 in
theorem w_sTypeVariables (a0 : TType) {r : List (List UInt8)} (h : b_sTypeVariables a0 = some r) : SpecP Try.prog 7 [.d (eType a0)] [.sl 1 (eStrs r)] := by
  obtain ⟨a0_0, a0_1, a0_2⟩ := a0
  unfold b_sTypeVariables at h
  refine SpecP_intro Try.func7 rfl (by kernel_rfl) rfl fun A _ => ?_
  refine goL ?_
  refine VO_l0 ?_
  obtain ⟨g2, h⟩ := gd_s h
  obtain ⟨x1, hx1, h⟩ := lt_x h
  have sx1 := t_l4Vars (TType.mk a0_0 a0_1 a0_2) [] 0 g2
  rw [hx1] at sx1
  refine VO_cG [1] (sx1) ?_
  rintro _ _ ⟨v3, rfl, rfl⟩
  show VO _ _ _ _ ⟨(_, .sl 1 v3) :: _, [.box [.d (.i .i64 a0_0), .d (.s a0_1), .d (.sl 3 (eTypes a0_2))], .own 9 1 v3 (eStrs x1)], _⟩ _
  refine goL ?_
  refine V_freezeO 1 rfl rfl ?_
  refine V_ret ?_
  replace h := Option.some.inj h
  subst h
  exact R_rP
end Go.Proofs.Ytdofnoeiogjpjaa
set_option linter.unusedVariables false
set_option linter.unusedSimpArgs false
set_option linter.unusedSectionVars false
namespace Go.Proofs.Ytdofnoeiogjpjaa
open Go Go.Eng
attribute [local irreducible] V VO VQ VY Quiet QR SpecP SpecO MSpec Rng PostP PostO PostG
def b_GrowN (n : Int) : Option (List (List UInt8)) :=
(cnd (decide (n < 0)) (
none) (
(cnd (decide ((IntKind.i64.wrap (n - (IntKind.i64.wrap ((0 : Int) - 0)))) > 0)) (
gd (0 < (IntKind.i64.wrap (n - (IntKind.i64.wrap ((0 : Int) - 0)))) ∧ (IntKind.i64.wrap (n - (IntKind.i64.wrap ((0 : Int) - 0)))) ≤ 4294967296) (
(some []))) (
(some [])))))
set_option maxHeartbeats 4000000 in
theorem w_GrowN (n : Int) {r : List (List UInt8)} (h : b_GrowN n = some r) : Go.Eng.Spec Try.prog 74 [.nilsl, .d (.i .i64 n)] [] (fun sv Lo => sv = .sl 0 0 ∧ Lo = [.own 9 1 0 (eStrs r)]) := by
  unfold b_GrowN at h
  refine Spec_intro 0 Try.func74 rfl (by kernel_rfl) rfl rfl fun A _ => ?_
  refine goL ?_
  refine V_cb (fun c1 => ?_) (fun c1 => ?_)
  · replace h := cnd_t c1 h
    cases h
  · replace h := cnd_f c1 h
    refine V_skip ?_
    show V _ _ _ _ _
    refine goL ?_
    refine VO_r (Q_capn) ?_
    refine goL ?_
    refine VO_r (QR_ar) ?_
    refine VO_r (QR_ar) ?_
    refine goL ?_
    refine V_cb (fun c2 => ?_) (fun c2 => ?_)
    · replace h := cnd_t c2 h
      refine goL ?_
      refine VO_r (Q_capn) ?_
      refine VO_r (Q_sln) ?_
      refine goL ?_
      obtain ⟨g3, h⟩ := gd_s h
      refine VO_apz g3 ?_
      refine goL ?_
      refine VO_cut ?_
      refine goL ?_
      refine V_pk (fr' := [(4, .sl 0 (0 + 1))]) (Lc := [.own 9 1 (0 + 1) []]) 0 [0] ?_
      refine V_rv (fr' := [(4, .sl 0 0)]) (L' := [.own 9 1 0 []]) 0 0 ?_
      refine V_ret ?_
      replace h := Option.some.inj h
      subst h
      exact R_rH [.sl 0 0] [.own 9 1 0 []] ⟨rfl, rfl⟩
    · replace h := cnd_f c2 h
      refine V_skip ?_
      show V _ _ _ _ _
      refine goL ?_
      refine V_adT 9 1 4 ?_
      refine V_ret ?_
      replace h := Option.some.inj h
      subst h
      exact R_rH [.sl 0 0] [.own 9 1 0 []] ⟨rfl, rfl⟩
def b_ConcatS_l2 : List (List (List UInt8)) → (List (List UInt8)) → Option (List (List UInt8))
  | [], y8 => (some y8)
  | x13 :: xs, y8 => gd (y8.length + x13.length ≤ 4294967296) (
b_ConcatS_l2 xs (y8 ++ x13))
def b_ConcatS_l1 (a0 : List (List (List UInt8))) : List (List (List UInt8)) → Int → Option (List (List UInt8))
  | [], y2 => bnd (b_GrowN y2) fun x7 =>
b_ConcatS_l2 a0 x7
  | x5 :: xs, y2 => (cnd (decide ((IntKind.i64.wrap (y2 + (x5.length : Int))) < 0)) (
none) (
b_ConcatS_l1 a0 xs (IntKind.i64.wrap (y2 + (x5.length : Int)))))
def b_ConcatS (a0 : List (List (List UInt8))) : Option (List (List UInt8)) :=
b_ConcatS_l1 a0 a0 0
set_option maxHeartbeats 4000000 in
theorem w_ConcatS (a0 : List (List (List UInt8))) {r : List (List UInt8)} (h : b_ConcatS a0 = some r) : SpecP Try.prog 63 [.d (.sl 1 (eLstrings a0))] [.sl 1 (eStrs r)] := by
  unfold b_ConcatS at h
  refine SpecP_intro Try.func63 rfl (by kernel_rfl) rfl fun A _ => ?_
  refine goL ?_
  refine V_block ?_
  show V _ _ _ _ _
  refine V_bd 0 (fun z3 => ?_)
  refine V_loop2 (fun (y1 : Nat) (y2 : Int) => ⟨[(0, .d (.sl 1 (eLstrings a0))), (3, .d (.i .i64 y2)), (9, .d (.sl 1 (eLstrings a0))), (10, .d (.i .i64 (a0.length : Int))), (11, .d (.i .i64 (y1 : Int)))], [], Try.f63.ntmps⟩) (fun y1 y2 => b_ConcatS_l1 a0 (a0.drop y1) y2 = some r) (fun y1 y2 => a0.length - y1) 0 0 ⟨rfl, ⟨⟨rfl, rfl⟩, ⟨rfl, rfl⟩, ⟨rfl, rfl⟩, ⟨rfl, rfl⟩, ⟨rfl, rfl⟩, trivial⟩, ⟨[], rfl⟩, rfl⟩ h ?_
  rintro y1 y2 h
  refine goL ?_
  refine V_seq (V_cb (fun c4 => ?_) (fun c4 => ?_))
  · have hky12 := kltN c4
    obtain ⟨x5, hx5, hdx5⟩ := drop_at hky12
    rw [hdx5, b_ConcatS_l1.eq_2] at h
    refine V_skip ?_
    show V _ _ _ _ _
    refine V_seq (V_block ?_)
    refine goL ?_
    refine VO_r (QR_ixn y1 (gLstring hx5)) ?_
    refine goL ?_
    refine VO_r (QR_ar) ?_
    refine goL ?_
    refine V_cb (fun c6 => ?_) (fun c6 => ?_)
    · replace h := cnd_t c6 h
      cases h
    · replace h := cnd_f c6 h
      refine V_skip ?_
      show V _ _ _ _ _
      refine goL ?_
      refine VO_r (QR_inc y1 (by omega)) ?_
      refine goL ?_
      exact ⟨(y1 + 1), (IntKind.i64.wrap (y2 + (x5.length : Int))), h, by omega, ⟨rfl, ⟨⟨rfl, rfl⟩, ⟨rfl, rfl⟩, ⟨rfl, rfl⟩, ⟨rfl, rfl⟩, ⟨rfl, rfl⟩, trivial⟩, ⟨_, rfl⟩, rfl⟩⟩
  · have hky12 := kgeN c4
    rw [drop_end hky12, b_ConcatS_l1.eq_1] at h
    refine V_exit ?_
    show V _ _ _ _ _
    refine goL ?_
    obtain ⟨x7, hx7, h⟩ := bnd_s h
    refine VO_cG [] (w_GrowN y2 hx7) ?_
    rintro _ _ ⟨rfl, rfl⟩
    show VO _ _ _ _ ⟨(_, .sl 0 0) :: _, [.own 9 1 0 (eStrs x7)], _⟩ _
    refine goL ?_
    refine V_block ?_
    show V _ _ _ _ _
    refine V_bd 25 (fun z11 => ?_)
    refine V_loop3 (fun (y10 : Nat) (y8 : List (List UInt8)) (v9 : Nat) => ⟨[(6, .sl 0 v9), (25, .d (.sl 1 (eLstrings a0))), (26, .d (.i .i64 (a0.length : Int))), (27, .d (.i .i64 (y10 : Int)))], [.own 9 1 v9 (eStrs y8)], Try.f63.ntmps⟩) (fun y10 y8 v9 => b_ConcatS_l2 (a0.drop y10) y8 = some r) (fun y10 y8 v9 => a0.length - y10) 0 x7 0 ⟨rfl, ⟨⟨rfl, rfl⟩, ⟨rfl, rfl⟩, ⟨rfl, rfl⟩, ⟨rfl, rfl⟩, trivial⟩, ⟨[], rfl⟩, rfl⟩ h ?_
    rintro y10 y8 v9 h
    refine goL ?_
    refine V_seq (V_cb (fun c12 => ?_) (fun c12 => ?_))
    · have hky102 := kltN c12
      obtain ⟨x13, hx13, hdx13⟩ := drop_at hky102
      rw [hdx13, b_ConcatS_l2.eq_2] at h
      refine V_skip ?_
      show V _ _ _ _ _
      refine V_seq (V_block ?_)
      refine goL ?_
      refine VO_r (QR_ixn y10 (gLstring hx13)) ?_
      refine goL ?_
      obtain ⟨g14, h⟩ := gd_s h
      refine VO_ap g14 ?_
      refine goL ?_
      refine VO_r (QR_inc y10 (by omega)) ?_
      refine goL ?_
      exact ⟨(y10 + 1), (y8 ++ x13), (v9 + 1), h, by omega, ⟨rfl, ⟨⟨rfl, rfl⟩, ⟨rfl, rfl⟩, ⟨rfl, rfl⟩, ⟨rfl, rfl⟩, trivial⟩, ⟨_, rfl⟩, rfl⟩⟩
    · have hky102 := kgeN c12
      rw [drop_end hky102, b_ConcatS_l2.eq_1] at h
      refine V_exit ?_
      show V _ _ _ _ _
      refine goL ?_
      refine V_freezeO 0 rfl rfl ?_
      refine V_ret ?_
      replace h := Option.some.inj h
      subst h
      exact R_rP
def b_iUnion_l1 : List (List UInt8) → (List (List UInt8)) → (List (List UInt8)) → Option (List (List UInt8))
  | [], y2, y4 => (some y2)
  | x9 :: xs, y2, y4 => (cnd (!(decide (x9 ∈ y4))) (
gd (y2.length + [x9].length ≤ 4294967296) (
b_iUnion_l1 xs (y2 ++ [x9]) (y4 ++ [x9]))) (
b_iUnion_l1 xs y2 y4))
def b_iUnion (a0 : List (List UInt8)) (a1 : List (List UInt8)) : Option (List (List UInt8)) :=
bnd (b_ConcatS [a0, a1]) fun x1 =>
b_iUnion_l1 x1 [] []
set_option maxHeartbeats 4000000 in
theorem w_iUnion (a0 : List (List UInt8)) (a1 : List (List UInt8)) {r : List (List UInt8)} (h : b_iUnion a0 a1 = some r) : SpecO Try.prog 43 [.d (.sl 1 (eStrs a0)), .d (.sl 1 (eStrs a1))] [9] [.sl 1 (eStrs r)] := by
  unfold b_iUnion at h
  refine SpecO_intro Try.func43 rfl (by kernel_rfl) rfl (by simp) fun A _ => ?_
  refine goL ?_
  refine VO_l0 ?_
  refine goL ?_
  refine VO_mkm ?_
  refine goL ?_
  refine VO_lb (us := eLstrings [a0, a1]) ?_
  refine VO_freeze 2 rfl rfl ?_
  obtain ⟨x1, hx1, h⟩ := bnd_s h
  refine VO_k (Q_cl (w_ConcatS [a0, a1] hx1)) ?_
  refine goL ?_
  refine V_block ?_
  show V _ _ _ _ _
  refine V_bd 14 (fun z7 => ?_)
  refine V_loop4 (fun (y6 : Nat) (y2 : List (List UInt8)) (y4 : List (List UInt8)) (v3 : Nat) => ⟨[(5, .sl 0 v3), (6, .sl 1 0), (14, .d (.sl 1 (eStrs x1))), (15, .d (.i .i64 (x1.length : Int))), (16, .d (.i .i64 (y6 : Int)))], [.own 9 1 v3 (eStrs y2), .set y4, .frz 29 1 0 (eLstrings [a0, a1])], Try.f43.ntmps⟩) (fun y6 y2 y4 v3 => b_iUnion_l1 (x1.drop y6) y2 y4 = some r) (fun y6 y2 y4 v3 => x1.length - y6) 0 [] [] 0 ⟨rfl, ⟨⟨rfl, rfl⟩, ⟨rfl, rfl⟩, ⟨rfl, rfl⟩, ⟨rfl, rfl⟩, ⟨rfl, rfl⟩, trivial⟩, ⟨[], rfl⟩, rfl⟩ h ?_
  rintro y6 y2 y4 v3 h
  refine goL ?_
  refine V_seq (V_cb (fun c8 => ?_) (fun c8 => ?_))
  · have hky62 := kltN c8
    obtain ⟨x9, hx9, hdx9⟩ := drop_at hky62
    rw [hdx9, b_iUnion_l1.eq_2] at h
    refine V_skip ?_
    show V _ _ _ _ _
    refine V_seq (V_block ?_)
    refine goL ?_
    refine VO_r (QR_ixn y6 (gStr hx9)) ?_
    refine goL ?_
    refine VO_k (Q_mlk) ?_
    refine goL ?_
    refine V_cb (fun c10 => ?_) (fun c10 => ?_)
    · replace h := cnd_t c10 h
      refine goL ?_
      refine VO_mset ?_
      refine goL ?_
      refine VO_l1t x9 ?_
      obtain ⟨g11, h⟩ := gd_s h
      refine VO_ap g11 ?_
      refine goL ?_
      refine VO_r (QR_inc y6 (by omega)) ?_
      refine goL ?_
      exact ⟨(y6 + 1), (y2 ++ [x9]), (y4 ++ [x9]), (v3 + 1), h, by omega, ⟨rfl, ⟨⟨rfl, rfl⟩, ⟨rfl, rfl⟩, ⟨rfl, rfl⟩, ⟨rfl, rfl⟩, ⟨rfl, rfl⟩, trivial⟩, ⟨_, rfl⟩, rfl⟩⟩
    · replace h := cnd_f c10 h
      refine V_skip ?_
      show V _ _ _ _ _
      refine goL ?_
      refine VO_r (QR_inc y6 (by omega)) ?_
      refine goL ?_
      exact ⟨(y6 + 1), y2, y4, v3, h, by omega, ⟨rfl, ⟨⟨rfl, rfl⟩, ⟨rfl, rfl⟩, ⟨rfl, rfl⟩, ⟨rfl, rfl⟩, ⟨rfl, rfl⟩, trivial⟩, ⟨_, rfl⟩, rfl⟩⟩
  · have hky62 := kgeN c8
    rw [drop_end hky62, b_iUnion_l1.eq_1] at h
    refine V_exit ?_
    show V _ _ _ _ _
    refine goL ?_
    refine V_ret ?_
    replace h := Option.some.inj h
    subst h
    exact R_rO
end Go.Proofs.Ytdofnoeiogjpjaa
