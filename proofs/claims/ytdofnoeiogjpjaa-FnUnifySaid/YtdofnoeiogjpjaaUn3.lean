/- Un3. Written by a program of mine (aw.py). -/
import Derived.Test.YtdofnoeiogjpjaaFacts
import Derived.Test.YtdofnoeiogjpjaaUn1
set_option linter.unusedVariables false
set_option linter.unusedSimpArgs false
set_option linter.unusedSectionVars false
namespace Go.Proofs.Ytdofnoeiogjpjaa
open Go Go.Eng
attribute [local irreducible] V VO VQ VY Quiet QR SpecP SpecO MSpec Rng PostP PostO PostG
def b_ctv1 (v : List UInt8) (n : Int) (u : TType) : Int :=
lt_ ((cnd (u.kind == 1) ((u.name == v)) (false))) fun b1 =>
(cnd b1 (
(IntKind.i64.wrap (n + 1))) (
n))
set_option maxHeartbeats 4000000 in
theorem w_ctv1 (v : List UInt8) (n : Int) (u : TType) : Go.Eng.Spec Try.prog 53 [.d (eType u), .ptr 0 0, .ptr 1 0] [.box [.d (.s v)], .box [.d (.i .i64 n)]] (fun sv Lo => sv = .tup [] ∧ Lo = [.box [.d (.s v)], .box [.d (.i .i64 (b_ctv1 v n u))]]) := by
  obtain ⟨r, h⟩ : ∃ r, b_ctv1 v n u = r := ⟨_, rfl⟩
  rw [h]
  obtain ⟨u_0, u_1, u_2⟩ := u
  unfold b_ctv1 at h
  refine Spec_intro 2 Try.func53 rfl (by kernel_rfl) rfl rfl fun A _ => ?_
  refine goL ?_
  obtain ⟨b1, hb1, h⟩ := lt_x h
  refine VO_join ⟨[(2, .ptr 1 0), (12, .d (.b b1))], [.box [.d (.s v)], .box [.d (.i .i64 n)], .box [.d (.i .i64 u_0), .d (.s u_1), .d (.sl 3 (eTypes u_2))]], Try.f53.ntmps⟩ ?_ ?_
  · refine VO_case 7 (fun c2 => ?_) (fun c2 => ?_)
    · replace hb1 := cnd_t c2 hb1
      refine goL ?_
      cases hb1
      exact ⟨rfl, ⟨⟨rfl, rfl⟩, ⟨rfl, rfl⟩, trivial⟩, ⟨[], rfl⟩, rfl⟩
    · replace hb1 := cnd_f c2 hb1
      refine goL ?_
      cases hb1
      exact ⟨rfl, ⟨⟨rfl, rfl⟩, ⟨rfl, rfl⟩, trivial⟩, ⟨[], rfl⟩, rfl⟩
  refine goL ?_
  refine V_cb (fun c3 => ?_) (fun c3 => ?_)
  · replace h := cnd_t c3 h
    refine goL ?_
    refine VO_r (QR_ar) ?_
    refine goL ?_
    subst h
    exact N_rH [] [.box [.d (.s v)], .box [.d (.i .i64 (IntKind.i64.wrap (n + 1)))]] ⟨rfl, rfl⟩
  · replace h := cnd_f c3 h
    refine V_skip ?_
    show PostG _ _ _ _ _ _
    subst h
    exact N_rH [] [.box [.d (.s v)], .box [.d (.i .i64 n)]] ⟨rfl, rfl⟩
def b_eachCt_l1 (rec_eachCt : (List UInt8) → Int → TType → Option (Int)) (v : List UInt8) : List TType → Int → Option (Int)
  | [], y2 => (some y2)
  | x6 :: xs, y2 => bnd (rec_eachCt v y2 x6) fun x7 =>
b_eachCt_l1 rec_eachCt v xs x7
def b_eachCt (rec_eachCt : (List UInt8) → Int → TType → Option (Int)) (v : List UInt8) (n : Int) (u : TType) : Option (Int) :=
lt_ (b_ctv1 v n u) fun x1 =>
b_eachCt_l1 rec_eachCt v u.args x1
set_option maxHeartbeats 4000000 in
theorem w_eachCt {rec_eachCt : (List UInt8) → Int → TType → Option (Int)} (hrec_eachCt : ∀ (x0 : List UInt8) (x1 : Int) (x2 : TType) {r : Int}, rec_eachCt x0 x1 x2 = some r → Go.Eng.Spec Try.prog 52 [.d (eType x2), .fn 53 [.ptr 0 0, .ptr 1 0]] [.box [.d (.s x0)], .box [.d (.i .i64 x1)]] (fun sv Lo => sv = .tup [] ∧ Lo = [.box [.d (.s x0)], .box [.d (.i .i64 r)]])) (v : List UInt8) (n : Int) (u : TType) {r : Int} (h : b_eachCt rec_eachCt v n u = some r) : Go.Eng.Spec Try.prog 52 [.d (eType u), .fn 53 [.ptr 0 0, .ptr 1 0]] [.box [.d (.s v)], .box [.d (.i .i64 n)]] (fun sv Lo => sv = .tup [] ∧ Lo = [.box [.d (.s v)], .box [.d (.i .i64 r)]]) := by
  obtain ⟨u_0, u_1, u_2⟩ := u
  unfold b_eachCt at h
  refine Spec_intro 2 Try.func52 rfl (by kernel_rfl) rfl rfl fun A _ => ?_
  refine goL ?_
  obtain ⟨x1, hx1, h⟩ := lt_x h
  have sx1 := w_ctv1 v n (TType.mk u_0 u_1 u_2)
  rw [hx1] at sx1
  refine VO_cG [0, 1] (sx1) ?_
  rintro _ _ ⟨rfl, rfl⟩
  show VO _ _ _ _ ⟨(_, .tup []) :: _, [.box [.d (.s v)], .box [.d (.i .i64 x1)], .box [.d (.i .i64 u_0), .d (.s u_1), .d (.sl 3 (eTypes u_2))]], _⟩ _
  refine goL ?_
  refine V_block ?_
  show V _ _ _ _ _
  refine V_bd 10 (fun z4 => ?_)
  refine V_loop2 (fun (y3 : Nat) (y2 : Int) => ⟨[(1, .fn 53 [.ptr 0 0, .ptr 1 0]), (10, .d (.sl 3 (eTypes u_2))), (11, .d (.i .i64 (u_2.length : Int))), (12, .d (.i .i64 (y3 : Int)))], [.box [.d (.s v)], .box [.d (.i .i64 y2)], .box [.d (.i .i64 u_0), .d (.s u_1), .d (.sl 3 (eTypes u_2))]], Try.f52.ntmps⟩) (fun y3 y2 => b_eachCt_l1 rec_eachCt v (u_2.drop y3) y2 = some r) (fun y3 y2 => u_2.length - y3) 0 x1 ⟨rfl, ⟨⟨rfl, rfl⟩, ⟨rfl, rfl⟩, ⟨rfl, rfl⟩, ⟨rfl, rfl⟩, trivial⟩, ⟨[], rfl⟩, rfl⟩ h ?_
  rintro y3 y2 h
  refine goL ?_
  refine V_seq (V_cb (fun c5 => ?_) (fun c5 => ?_))
  · have hky32 := kltN c5
    obtain ⟨x6, hx6, hdx6⟩ := drop_at hky32
    rw [hdx6, b_eachCt_l1.eq_2] at h
    obtain ⟨x6_0, x6_1, x6_2⟩ := x6
    refine V_skip ?_
    show V _ _ _ _ _
    refine V_seq (V_block ?_)
    refine goL ?_
    refine VO_r (QR_ixn y3 (gType hx6)) ?_
    refine goL ?_
    obtain ⟨x7, hx7, h⟩ := bnd_s h
    refine VO_cG [0, 1] (hrec_eachCt v y2 (TType.mk x6_0 x6_1 x6_2) hx7) ?_
    rintro _ _ ⟨rfl, rfl⟩
    show VO _ _ _ _ ⟨(_, .tup []) :: _, [.box [.d (.s v)], .box [.d (.i .i64 x7)], .box [.d (.i .i64 u_0), .d (.s u_1), .d (.sl 3 (eTypes u_2))], .box [.d (.i .i64 x6_0), .d (.s x6_1), .d (.sl 3 (eTypes x6_2))]], _⟩ _
    refine goL ?_
    refine VO_r (QR_inc y3 (by omega)) ?_
    refine goL ?_
    exact ⟨(y3 + 1), x7, h, by omega, ⟨rfl, ⟨⟨rfl, rfl⟩, ⟨rfl, rfl⟩, ⟨rfl, rfl⟩, ⟨rfl, rfl⟩, trivial⟩, ⟨_, rfl⟩, rfl⟩⟩
  · have hky32 := kgeN c5
    rw [drop_end hky32, b_eachCt_l1.eq_1] at h
    refine V_exit ?_
    show PostG _ _ _ _ _ _
    replace h := Option.some.inj h
    subst h
    exact N_rH [] [.box [.d (.s v)], .box [.d (.i .i64 y2)]] ⟨rfl, rfl⟩
def m_eachCt : Nat → (List UInt8) → Int → TType → Option (Int)
  | 0, _, _, _ => none
  | n + 1, x0, x1, x2 => b_eachCt (m_eachCt n) x0 x1 x2
theorem s_eachCt : ∀ (n : Nat) (x0 : List UInt8) (x1 : Int) (x2 : TType) {r : Int}, m_eachCt n x0 x1 x2 = some r → Go.Eng.Spec Try.prog 52 [.d (eType x2), .fn 53 [.ptr 0 0, .ptr 1 0]] [.box [.d (.s x0)], .box [.d (.i .i64 x1)]] (fun sv Lo => sv = .tup [] ∧ Lo = [.box [.d (.s x0)], .box [.d (.i .i64 r)]]) := by
  intro n
  induction n with
  | zero => intro x0 x1 x2 r h; cases h
  | succ n ih => intro x0 x1 x2 r h; exact w_eachCt ih x0 x1 x2 h
def b_sCount_l1 (rec_sCount : TType → (List UInt8) → Option (Int)) (a1 : List UInt8) : List TType → Int → Option (Int)
  | [], y4 => (some y4)
  | x8 :: xs, y4 => bnd (rec_sCount x8 a1) fun x9 =>
b_sCount_l1 rec_sCount a1 xs (IntKind.i64.wrap (y4 + x9))
def b_sCount_l2 (rec_sCount : TType → (List UInt8) → Option (Int)) (a1 : List UInt8) : List TType → Int → Option (Int)
  | [], y10 => (some y10)
  | x14 :: xs, y10 => bnd (rec_sCount x14 a1) fun x15 =>
b_sCount_l2 rec_sCount a1 xs (IntKind.i64.wrap (y10 + x15))
def b_sCount (rec_sCount : TType → (List UInt8) → Option (Int)) (a0 : TType) (a1 : List UInt8) : Option (Int) :=
lt_ ((cnd (a0.kind == 1) ((a0.name == a1)) (false))) fun b1 =>
(cnd b1 (
b_sCount_l1 rec_sCount a1 a0.args 1) (
b_sCount_l2 rec_sCount a1 a0.args 0))
set_option maxHeartbeats 4000000 in
theorem w_sCount {rec_sCount : TType → (List UInt8) → Option (Int)} (hrec_sCount : ∀ (x0 : TType) (x1 : List UInt8) {r : Int}, rec_sCount x0 x1 = some r → SpecP Try.prog 79 [.d (eType x0), .d (.s x1)] [.i .i64 r]) (a0 : TType) (a1 : List UInt8) {r : Int} (h : b_sCount rec_sCount a0 a1 = some r) : SpecP Try.prog 79 [.d (eType a0), .d (.s a1)] [.i .i64 r] := by
  obtain ⟨a0_0, a0_1, a0_2⟩ := a0
  unfold b_sCount at h
  refine SpecP_intro Try.func79 rfl (by kernel_rfl) rfl fun A _ => ?_
  refine goL ?_
  obtain ⟨b1, hb1, h⟩ := lt_x h
  refine VO_join ⟨[(1, .d (.s a1)), (2, .ptr 0 0), (5, .d (.i .i64 0)), (15, .d (.b b1))], [.box [.d (.i .i64 a0_0), .d (.s a0_1), .d (.sl 3 (eTypes a0_2))]], Try.f79.ntmps⟩ ?_ ?_
  · refine VO_case 10 (fun c2 => ?_) (fun c2 => ?_)
    · replace hb1 := cnd_t c2 hb1
      refine goL ?_
      cases hb1
      exact ⟨rfl, ⟨⟨rfl, rfl⟩, ⟨rfl, rfl⟩, ⟨rfl, rfl⟩, ⟨rfl, rfl⟩, trivial⟩, ⟨[], rfl⟩, rfl⟩
    · replace hb1 := cnd_f c2 hb1
      refine goL ?_
      cases hb1
      exact ⟨rfl, ⟨⟨rfl, rfl⟩, ⟨rfl, rfl⟩, ⟨rfl, rfl⟩, ⟨rfl, rfl⟩, trivial⟩, ⟨[], rfl⟩, rfl⟩
  refine goL ?_
  refine V_cb (fun c3 => ?_) (fun c3 => ?_)
  · replace h := cnd_t c3 h
    refine goL ?_
    refine V_block ?_
    show V _ _ _ _ _
    refine V_bdc 0 2 (fun z6 => ?_)
    refine V_loop2 (fun (y5 : Nat) (y4 : Int) => ⟨[(1, .d (.s a1)), (2, .ptr 0 0), (5, .d (.i .i64 y4)), (6, .d (.i .i64 (y5 : Int)))], [.box [.d (.i .i64 a0_0), .d (.s a0_1), .d (.sl 3 (eTypes a0_2))]], Try.f79.ntmps⟩) (fun y5 y4 => b_sCount_l1 rec_sCount a1 (a0_2.drop y5) y4 = some r) (fun y5 y4 => a0_2.length - y5) 0 1 ⟨rfl, ⟨⟨rfl, rfl⟩, ⟨rfl, rfl⟩, ⟨rfl, rfl⟩, ⟨rfl, rfl⟩, trivial⟩, ⟨[], rfl⟩, rfl⟩ h ?_
    rintro y5 y4 h
    refine goL ?_
    refine V_cb (fun c7 => ?_) (fun c7 => ?_)
    · have hky52 := kltN c7
      obtain ⟨x8, hx8, hdx8⟩ := drop_at hky52
      rw [hdx8, b_sCount_l1.eq_2] at h
      obtain ⟨x8_0, x8_1, x8_2⟩ := x8
      refine V_skip ?_
      show V _ _ _ _ _
      refine V_seq (V_block ?_)
      refine goL ?_
      refine VO_r (QR_ixn y5 (gType hx8)) ?_
      refine goL ?_
      obtain ⟨x9, hx9, h⟩ := bnd_s h
      refine VO_r (QR_call (hrec_sCount (TType.mk x8_0 x8_1 x8_2) a1 hx9)) ?_
      refine VO_r (QR_ar) ?_
      refine goL ?_
      refine VO_r (QR_inc y5 (by omega)) ?_
      refine goL ?_
      exact ⟨(y5 + 1), (IntKind.i64.wrap (y4 + x9)), h, by omega, ⟨rfl, ⟨⟨rfl, rfl⟩, ⟨rfl, rfl⟩, ⟨rfl, rfl⟩, ⟨rfl, rfl⟩, trivial⟩, ⟨_, rfl⟩, rfl⟩⟩
    · have hky52 := kgeN c7
      rw [drop_end hky52, b_sCount_l1.eq_1] at h
      refine V_exit ?_
      show V _ _ _ _ _
      refine goL ?_
      refine V_ret ?_
      replace h := Option.some.inj h
      subst h
      exact R_rP
  · replace h := cnd_f c3 h
    refine V_skip ?_
    show V _ _ _ _ _
    refine goL ?_
    refine V_block ?_
    show V _ _ _ _ _
    refine V_bdc 0 2 (fun z12 => ?_)
    refine V_loop2 (fun (y11 : Nat) (y10 : Int) => ⟨[(1, .d (.s a1)), (2, .ptr 0 0), (5, .d (.i .i64 y10)), (6, .d (.i .i64 (y11 : Int)))], [.box [.d (.i .i64 a0_0), .d (.s a0_1), .d (.sl 3 (eTypes a0_2))]], Try.f79.ntmps⟩) (fun y11 y10 => b_sCount_l2 rec_sCount a1 (a0_2.drop y11) y10 = some r) (fun y11 y10 => a0_2.length - y11) 0 0 ⟨rfl, ⟨⟨rfl, rfl⟩, ⟨rfl, rfl⟩, ⟨rfl, rfl⟩, ⟨rfl, rfl⟩, trivial⟩, ⟨[], rfl⟩, rfl⟩ h ?_
    rintro y11 y10 h
    refine goL ?_
    refine V_cb (fun c13 => ?_) (fun c13 => ?_)
    · have hky112 := kltN c13
      obtain ⟨x14, hx14, hdx14⟩ := drop_at hky112
      rw [hdx14, b_sCount_l2.eq_2] at h
      obtain ⟨x14_0, x14_1, x14_2⟩ := x14
      refine V_skip ?_
      show V _ _ _ _ _
      refine V_seq (V_block ?_)
      refine goL ?_
      refine VO_r (QR_ixn y11 (gType hx14)) ?_
      refine goL ?_
      obtain ⟨x15, hx15, h⟩ := bnd_s h
      refine VO_r (QR_call (hrec_sCount (TType.mk x14_0 x14_1 x14_2) a1 hx15)) ?_
      refine VO_r (QR_ar) ?_
      refine goL ?_
      refine VO_r (QR_inc y11 (by omega)) ?_
      refine goL ?_
      exact ⟨(y11 + 1), (IntKind.i64.wrap (y10 + x15)), h, by omega, ⟨rfl, ⟨⟨rfl, rfl⟩, ⟨rfl, rfl⟩, ⟨rfl, rfl⟩, ⟨rfl, rfl⟩, trivial⟩, ⟨_, rfl⟩, rfl⟩⟩
    · have hky112 := kgeN c13
      rw [drop_end hky112, b_sCount_l2.eq_1] at h
      refine V_exit ?_
      show V _ _ _ _ _
      refine goL ?_
      refine V_ret ?_
      replace h := Option.some.inj h
      subst h
      exact R_rP
def m_sCount : Nat → TType → (List UInt8) → Option (Int)
  | 0, _, _ => none
  | n + 1, x0, x1 => b_sCount (m_sCount n) x0 x1
theorem s_sCount : ∀ (n : Nat) (x0 : TType) (x1 : List UInt8) {r : Int}, m_sCount n x0 x1 = some r → SpecP Try.prog 79 [.d (eType x0), .d (.s x1)] [.i .i64 r] := by
  intro n
  induction n with
  | zero => intro x0 x1 r h; cases h
  | succ n ih => intro x0 x1 r h; exact w_sCount ih x0 x1 h
/-! ### counting a variable, by hand -/
mutual
def ctc (v : List UInt8) (n : Int) : TType → Int
  | ⟨k, s, ts⟩ => ctcs v (cnd (cnd (k == 1) (s == v) false) (IntKind.i64.wrap (n + 1)) n) ts
def ctcs (v : List UInt8) (n : Int) : List TType → Int
  | [] => n
  | a :: ts => ctcs v (ctc v n a) ts
end
mutual
def ctn : TType → List UInt8 → Int
  | ⟨k, s, ts⟩, v => ctns ts v (cnd (cnd (k == 1) (s == v) false) 1 0)
def ctns : List TType → List UInt8 → Int → Int
  | [], _, y => y
  | a :: ts, v, y => ctns ts v (IntKind.i64.wrap (y + ctn a v))
end
theorem eachCt_l1_eq {rec : List UInt8 → Int → TType → Option Int} (v : List UInt8) : ∀ (xs : List TType) (y : Int), (∀ x ∈ xs, ∀ n, rec v n x = some (ctc v n x)) → b_eachCt_l1 rec v xs y = some (ctcs v y xs)
  | [], y, _ => rfl
  | x :: xs, y, h => by
    simp only [b_eachCt_l1, h x (by simp), bnd, ctcs]
    exact eachCt_l1_eq v xs _ (fun z hz => h z (by simp [hz]))
theorem eachCt_eq (v : List UInt8) : ∀ (m : Nat) (n : Int) (t : TType), tnd t ≤ m → m_eachCt m v n t = some (ctc v n t)
  | 0, n, t, h => by have := tnd_pos t; omega
  | m + 1, n, ⟨k, s, ts⟩, h => by
    simp only [tnd] at h
    simp only [m_eachCt, b_eachCt, lt_, ctc]
    rw [eachCt_l1_eq v ts _ (fun x hx n => eachCt_eq v m n x (by have := tnd_mem hx; omega))]
    rfl
theorem sCount_l1_eq {rec : TType → List UInt8 → Option Int} (v : List UInt8) : ∀ (xs : List TType) (y : Int), (∀ x ∈ xs, rec x v = some (ctn x v)) → b_sCount_l1 rec v xs y = some (ctns xs v y) ∧ b_sCount_l2 rec v xs y = some (ctns xs v y)
  | [], y, _ => ⟨rfl, rfl⟩
  | x :: xs, y, h => by
    simp only [b_sCount_l1, b_sCount_l2, h x (by simp), bnd, ctns]
    exact sCount_l1_eq v xs _ (fun z hz => h z (by simp [hz]))
theorem sCount_eq : ∀ (m : Nat) (t : TType) (v : List UInt8), tnd t ≤ m → m_sCount m t v = some (ctn t v)
  | 0, t, v, h => by have := tnd_pos t; omega
  | m + 1, ⟨k, s, ts⟩, v, h => by
    simp only [tnd] at h
    have h1 := fun y => sCount_l1_eq (rec := m_sCount m) v ts y (fun x hx => sCount_eq m x v (by have := tnd_mem hx; omega))
    simp only [m_sCount, b_sCount, lt_, ctn]
    rw [(h1 1).1, (h1 0).2]
    cases (cnd (k == 1) (s == v) false) <;> rfl

theorem t_eachCt (x0 : List UInt8) (x1 : Int) (x2 : TType) : Go.Eng.Spec Try.prog 52 [.d (eType x2), .fn 53 [.ptr 0 0, .ptr 1 0]] [.box [.d (.s x0)], .box [.d (.i .i64 x1)]] (fun sv Lo => sv = .tup [] ∧ Lo = [.box [.d (.s x0)], .box [.d (.i .i64 (ctc x0 x1 x2))]]) := s_eachCt (tnd x2) x0 x1 x2 (eachCt_eq _ _ _ _ (Nat.le_refl _))
theorem t_sCount (x0 : TType) (x1 : List UInt8) : SpecP Try.prog 79 [.d (eType x0), .d (.s x1)] [.i .i64 (ctn x0 x1)] := s_sCount (tnd x0) x0 x1 (sCount_eq _ _ _ (Nat.le_refl _))
def b_iCount (a0 : TType) (a1 : List UInt8) : Int :=
lt_ (ctc a1 0 a0) fun x1 =>
x1
set_option maxHeartbeats 4000000 in
theorem w_iCount (a0 : TType) (a1 : List UInt8) : SpecP Try.prog 32 [.d (eType a0), .d (.s a1)] [.i .i64 (b_iCount a0 a1)] := by
  obtain ⟨r, h⟩ : ∃ r, b_iCount a0 a1 = r := ⟨_, rfl⟩
  rw [h]
  obtain ⟨a0_0, a0_1, a0_2⟩ := a0
  unfold b_iCount at h
  refine SpecP_intro Try.func32 rfl (by kernel_rfl) rfl fun A _ => ?_
  refine goL ?_
  refine VO_r (QR_fn) ?_
  obtain ⟨x1, hx1, h⟩ := lt_x h
  have sx1 := t_eachCt a1 0 (TType.mk a0_0 a0_1 a0_2)
  rw [hx1] at sx1
  refine VO_cG [1, 2] (sx1) ?_
  rintro _ _ ⟨rfl, rfl⟩
  show VO _ _ _ _ ⟨(_, .tup []) :: _, [.box [.d (.i .i64 a0_0), .d (.s a0_1), .d (.sl 3 (eTypes a0_2))], .box [.d (.s a1)], .box [.d (.i .i64 x1)]], _⟩ _
  refine goL ?_
  refine V_ret ?_
  subst h
  exact R_rP
def b_iOccurs (a0 : List UInt8) (a1 : TType) : Bool :=
(decide ((b_iCount a1 a0) > 0))
set_option maxHeartbeats 4000000 in
theorem w_iOccurs (a0 : List UInt8) (a1 : TType) : SpecP Try.prog 20 [.d (.s a0), .d (eType a1)] [.b (b_iOccurs a0 a1)] := by
  obtain ⟨r, h⟩ : ∃ r, b_iOccurs a0 a1 = r := ⟨_, rfl⟩
  rw [h]
  obtain ⟨a1_0, a1_1, a1_2⟩ := a1
  unfold b_iOccurs at h
  refine SpecP_intro Try.func20 rfl (by kernel_rfl) rfl fun A _ => ?_
  refine goL ?_
  refine VO_r (QR_call (w_iCount (TType.mk a1_0 a1_1 a1_2) a0)) ?_
  refine goL ?_
  refine V_ret ?_
  subst h
  exact R_rP
def b_sOccurs (a0 : List UInt8) (a1 : TType) : Bool :=
(decide ((ctn a1 a0) > 0))
set_option maxHeartbeats 4000000 in
theorem w_sOccurs (a0 : List UInt8) (a1 : TType) : SpecP Try.prog 77 [.d (.s a0), .d (eType a1)] [.b (b_sOccurs a0 a1)] := by
  obtain ⟨r, h⟩ : ∃ r, b_sOccurs a0 a1 = r := ⟨_, rfl⟩
  rw [h]
  obtain ⟨a1_0, a1_1, a1_2⟩ := a1
  unfold b_sOccurs at h
  refine SpecP_intro Try.func77 rfl (by kernel_rfl) rfl fun A _ => ?_
  refine goL ?_
  refine VO_r (QR_call (t_sCount (TType.mk a1_0 a1_1 a1_2) a0)) ?_
  refine goL ?_
  refine V_ret ?_
  subst h
  exact R_rP
def b_sBound_l1 (a1 : List UInt8) (a2 : TType) : List TBinding → (List TBinding) → Option (List TBinding)
  | [], y1 => gd (tok a2) (lt_ (idT a2) fun x11 =>
gd (y1.length + [(TBinding.mk a1 x11)].length ≤ 4294967296) (
(some (y1 ++ [(TBinding.mk a1 x11)]))))
  | x6 :: xs, y1 => gd (bok [(TBinding.mk a1 a2)] ∧ tok x6.type_) (lt_ (apT [(TBinding.mk a1 a2)] x6.type_) fun x8 =>
gd (y1.length + [(TBinding.mk x6.var_ x8)].length ≤ 4294967296) (
b_sBound_l1 a1 a2 xs (y1 ++ [(TBinding.mk x6.var_ x8)])))
def b_sBound (a0 : List TBinding) (a1 : List UInt8) (a2 : TType) : Option (List TBinding) :=
b_sBound_l1 a1 a2 a0 []
set_option maxHeartbeats 4000000 in
theorem w_sBound (a0 : List TBinding) (a1 : List UInt8) (a2 : TType) {r : List TBinding} (h : b_sBound a0 a1 a2 = some r) : SpecP Try.prog 76 [.d (.sl 4 (eBindings a0)), .d (.s a1), .d (eType a2)] [.sl 4 (eBindings r)] := by
  obtain ⟨a2_0, a2_1, a2_2⟩ := a2
  unfold b_sBound at h
  refine SpecP_intro Try.func76 rfl (by kernel_rfl) rfl fun A _ => ?_
  refine goL ?_
  refine VO_l0 ?_
  refine goL ?_
  refine VO_k (Q_build TBd.h TZ.h rfl (by repeat constructor)) ?_
  refine VO_la1 (u := (.st [.s a1, .st [.i .i64 a2_0, .s a2_1, .sl 3 (eTypes a2_2)]])) ?_
  refine goL ?_
  refine V_block ?_
  show V _ _ _ _ _
  refine V_bd 0 (fun z4 => ?_)
  refine V_loop3 (fun (y3 : Nat) (y1 : List TBinding) (v2 : Nat) => ⟨[(0, .d (.sl 4 (eBindings a0))), (1, .d (.s a1)), (5, .ptr 0 0), (7, .sl 1 v2), (8, .sl 2 0), (9, .d (.i .i64 (y3 : Int)))], [.box [.d (.i .i64 a2_0), .d (.s a2_1), .d (.sl 3 (eTypes a2_2))], .own 40 4 v2 (eBindings y1), .arr 40 4 0 (eBindings [(TBinding.mk a1 (TType.mk a2_0 a2_1 a2_2))])], Try.f76.ntmps⟩) (fun y3 y1 v2 => b_sBound_l1 a1 (TType.mk a2_0 a2_1 a2_2) (a0.drop y3) y1 = some r) (fun y3 y1 v2 => a0.length - y3) 0 [] 0 ⟨rfl, ⟨⟨rfl, rfl⟩, ⟨rfl, rfl⟩, ⟨rfl, rfl⟩, ⟨rfl, rfl⟩, ⟨rfl, rfl⟩, ⟨rfl, rfl⟩, trivial⟩, ⟨[], rfl⟩, rfl⟩ h ?_
  rintro y3 y1 v2 h
  refine goL ?_
  refine V_cb (fun c5 => ?_) (fun c5 => ?_)
  · have hky32 := kltN c5
    obtain ⟨x6, hx6, hdx6⟩ := drop_at hky32
    rw [hdx6, b_sBound_l1.eq_2] at h
    obtain ⟨x6_0, ⟨x6_1_0, x6_1_1, x6_1_2⟩⟩ := x6
    refine V_skip ?_
    show V _ _ _ _ _
    refine V_seq (V_block ?_)
    refine V_drawX (P := Try.prog) Mix.h [(0, true), (1, true), (2, true), (3, true), (4, true), (5, true), (6, true), (7, true), (8, true), (9, true), (10, true), (11, true), (12, false), (13, true), (14, false), (15, false), (16, true)] (by kernel_rfl) ?_
    refine goY ?_
    refine VY_ri rfl (QR_ixn y3 (gBinding hx6)) ?_
    refine goY ?_
    refine VY_ri rfl (QR_ixn y3 (gBinding hx6)) ?_
    refine goY ?_
    obtain ⟨g7, h⟩ := gd_s h
    obtain ⟨x8, hx8, h⟩ := lt_x h
    obtain ⟨x8_0, x8_1, x8_2⟩ := x8
    have sx8 := t_sApply [(TBinding.mk a1 (TType.mk a2_0 a2_1 a2_2))] (TType.mk x6_1_0 x6_1_1 x6_1_2) g7
    rw [hx8] at sx8
    refine VY_co (sx8) ?_
    refine goY ?_
    refine VY_l1t (T := 32) (TBinding.mk x6_0 (TType.mk x8_0 x8_1 x8_2)) ?_
    obtain ⟨g9, h⟩ := gd_s h
    refine VY_ap (T := 32) g9 ?_
    refine goY ?_
    refine VY_nil ?_
    refine goL ?_
    refine VO_r (QR_inc y3 (by omega)) ?_
    refine goL ?_
    exact ⟨(y3 + 1), (y1 ++ [(TBinding.mk x6_0 (TType.mk x8_0 x8_1 x8_2))]), (v2 + 1), h, by omega, ⟨rfl, ⟨⟨rfl, rfl⟩, ⟨rfl, rfl⟩, ⟨rfl, rfl⟩, ⟨rfl, rfl⟩, ⟨rfl, rfl⟩, ⟨rfl, rfl⟩, trivial⟩, ⟨_, rfl⟩, rfl⟩⟩
  · have hky32 := kgeN c5
    rw [drop_end hky32, b_sBound_l1.eq_1] at h
    refine V_exit ?_
    show V _ _ _ _ _
    refine goL ?_
    obtain ⟨g10, h⟩ := gd_s h
    obtain ⟨x11, hx11, h⟩ := lt_x h
    obtain ⟨x11_0, x11_1, x11_2⟩ := x11
    have sx11 := t_sCopyType (TType.mk a2_0 a2_1 a2_2) g10
    rw [hx11] at sx11
    refine VO_co (sx11) ?_
    refine VO_k (Q_build TBd.h TZ.h rfl (by repeat constructor)) ?_
    refine VO_l1t (TBinding.mk a1 (TType.mk x11_0 x11_1 x11_2)) ?_
    obtain ⟨g12, h⟩ := gd_s h
    refine VO_ap g12 ?_
    refine goL ?_
    refine V_freezeO 1 rfl rfl ?_
    refine V_ret ?_
    replace h := Option.some.inj h
    subst h
    exact R_rP
def b_sUnify (rec_sUnify : TType → TType → (List TBinding) → Option (List TBinding × Bool)) (rec_sAll : (List TType) → (List TType) → (List TBinding) → Option (List TBinding × Bool)) (a0 : TType) (a1 : TType) (a2 : List TBinding) : Option (List TBinding × Bool) :=
gd (bok a2 ∧ tok a0) (lt_ (apT a2 a0) fun x2 =>
gd (bok a2 ∧ tok a1) (lt_ (apT a2 a1) fun x4 =>
(cnd (teq x2 x4) (
(some (a2, true))) (
(cnd (decide ((IntKind.i64.wrap ((tsz x2) + (tsz x4))) > 4000)) (
(some (a2, false))) (
(cnd (x2.kind == 1) (
bnd (b_sBound a2 x2.name x4) fun x8 =>
(some (x8, (!(b_sOccurs x2.name x4))))) (
(cnd (x4.kind == 1) (
bnd (b_sBound a2 x4.name x2) fun x10 =>
(some (x10, (!(b_sOccurs x4.name x2))))) (
lt_ ((cnd (x2.kind != x4.kind) (true) ((cnd (!(x2.name == x4.name)) (true) (((x2.args.length : Int) != (x4.args.length : Int))))))) fun b11 =>
(cnd b11 (
(some (a2, false))) (
bnd (rec_sAll x2.args x4.args a2) fun x15 =>
(some (x15.1, x15.2))))))))))))))
set_option maxHeartbeats 4000000 in
theorem w_sUnify {rec_sUnify : TType → TType → (List TBinding) → Option (List TBinding × Bool)} {rec_sAll : (List TType) → (List TType) → (List TBinding) → Option (List TBinding × Bool)} (hrec_sUnify : ∀ (x0 : TType) (x1 : TType) (x2 : List TBinding) {r : List TBinding × Bool}, rec_sUnify x0 x1 x2 = some r → SpecP Try.prog 69 [.d (eType x0), .d (eType x1), .d (.sl 4 (eBindings x2))] [.sl 4 (eBindings r.1), .b r.2]) (hrec_sAll : ∀ (x0 : List TType) (x1 : List TType) (x2 : List TBinding) {r : List TBinding × Bool}, rec_sAll x0 x1 x2 = some r → SpecP Try.prog 50 [.d (.sl 3 (eTypes x0)), .d (.sl 3 (eTypes x1)), .d (.sl 4 (eBindings x2))] [.sl 4 (eBindings r.1), .b r.2]) (a0 : TType) (a1 : TType) (a2 : List TBinding) {r : List TBinding × Bool} (h : b_sUnify rec_sUnify rec_sAll a0 a1 a2 = some r) : SpecP Try.prog 69 [.d (eType a0), .d (eType a1), .d (.sl 4 (eBindings a2))] [.sl 4 (eBindings r.1), .b r.2] := by
  obtain ⟨a0_0, a0_1, a0_2⟩ := a0
  obtain ⟨a1_0, a1_1, a1_2⟩ := a1
  unfold b_sUnify at h
  refine SpecP_intro Try.func69 rfl (by kernel_rfl) rfl fun A _ => ?_
  refine goL ?_
  obtain ⟨g1, h⟩ := gd_s h
  obtain ⟨x2, hx2, h⟩ := lt_x h
  obtain ⟨x2_0, x2_1, x2_2⟩ := x2
  have sx2 := (t_sApply a2 (TType.mk a0_0 a0_1 a0_2) g1).p
  rw [hx2] at sx2
  refine VO_r (QR_call (sx2)) ?_
  refine goL ?_
  obtain ⟨g3, h⟩ := gd_s h
  obtain ⟨x4, hx4, h⟩ := lt_x h
  obtain ⟨x4_0, x4_1, x4_2⟩ := x4
  have sx4 := (t_sApply a2 (TType.mk a1_0 a1_1 a1_2) g3).p
  rw [hx4] at sx4
  refine VO_r (QR_call (sx4)) ?_
  refine goL ?_
  refine V_seq (V_block ?_)
  refine goL ?_
  refine VO_r (QR_call (t_sEqualType (TType.mk x2_0 x2_1 x2_2) (TType.mk x4_0 x4_1 x4_2))) ?_
  refine goL ?_
  refine V_cb (fun c5 => ?_) (fun c5 => ?_)
  · replace h := cnd_t c5 h
    refine goL ?_
    refine V_ret ?_
    replace h := Option.some.inj h
    subst h
    exact R_rP
  · replace h := cnd_f c5 h
    refine goL ?_
    refine VQ_r (QR_call (t_sTypeSize (TType.mk x2_0 x2_1 x2_2))) ?_
    refine goL ?_
    refine VQ_r (QR_call (t_sTypeSize (TType.mk x4_0 x4_1 x4_2))) ?_
    refine VQ_r (QR_ar) ?_
    refine goL ?_
    refine V_cb (fun c6 => ?_) (fun c6 => ?_)
    · replace h := cnd_t c6 h
      refine goL ?_
      refine V_ret ?_
      replace h := Option.some.inj h
      subst h
      exact R_rP
    · replace h := cnd_f c6 h
      refine goL ?_
      refine V_cb (fun c7 => ?_) (fun c7 => ?_)
      · replace h := cnd_t c7 h
        refine goL ?_
        obtain ⟨x8, hx8, h⟩ := bnd_s h
        refine VQ_r (QR_call (w_sBound a2 x2_1 (TType.mk x4_0 x4_1 x4_2) hx8)) ?_
        refine goL ?_
        refine VQ_r (QR_call (w_sOccurs x2_1 (TType.mk x4_0 x4_1 x4_2))) ?_
        refine goL ?_
        refine V_ret ?_
        replace h := Option.some.inj h
        subst h
        exact R_rP
      · replace h := cnd_f c7 h
        refine goL ?_
        refine V_cb (fun c9 => ?_) (fun c9 => ?_)
        · replace h := cnd_t c9 h
          refine goL ?_
          obtain ⟨x10, hx10, h⟩ := bnd_s h
          refine VQ_r (QR_call (w_sBound a2 x4_1 (TType.mk x2_0 x2_1 x2_2) hx10)) ?_
          refine goL ?_
          refine VQ_r (QR_call (w_sOccurs x4_1 (TType.mk x2_0 x2_1 x2_2))) ?_
          refine goL ?_
          refine V_ret ?_
          replace h := Option.some.inj h
          subst h
          exact R_rP
        · replace h := cnd_f c9 h
          refine goL ?_
          obtain ⟨b11, hb11, h⟩ := lt_x h
          refine VO_join ⟨[(2, .d (.sl 4 (eBindings a2))), (3, .ptr 0 0), (4, .ptr 1 0), (55, .d (.b b11))], [.box [.d (.i .i64 x2_0), .d (.s x2_1), .d (.sl 3 (eTypes x2_2))], .box [.d (.i .i64 x4_0), .d (.s x4_1), .d (.sl 3 (eTypes x4_2))]], Try.f69.ntmps⟩ ?_ ?_
          · refine VO_case 61 (fun c12 => ?_) (fun c12 => ?_) (by first | rfl | (simp only [eTypes_len, eBindings_len]; rfl))
            · replace hb11 := cnd_t c12 hb11
              refine goL ?_
              cases hb11
              exact ⟨rfl, ⟨⟨rfl, rfl⟩, ⟨rfl, rfl⟩, ⟨rfl, rfl⟩, ⟨by first | rfl | (simp only [eTypes_len, eBindings_len]; rfl), rfl⟩, trivial⟩, ⟨[], rfl⟩, rfl⟩
            · replace hb11 := cnd_f c12 hb11
              refine goL ?_
              refine VO_case 68 (fun c13 => ?_) (fun c13 => ?_) (by first | rfl | (simp only [eTypes_len, eBindings_len]; rfl))
              · replace hb11 := cnd_t c13 hb11
                refine goL ?_
                cases hb11
                exact ⟨rfl, ⟨⟨rfl, rfl⟩, ⟨rfl, rfl⟩, ⟨rfl, rfl⟩, ⟨by first | rfl | (simp only [eTypes_len, eBindings_len]; rfl), rfl⟩, trivial⟩, ⟨[], rfl⟩, rfl⟩
              · replace hb11 := cnd_f c13 hb11
                refine goL ?_
                cases hb11
                exact ⟨rfl, ⟨⟨rfl, rfl⟩, ⟨rfl, rfl⟩, ⟨rfl, rfl⟩, ⟨by first | rfl | (simp only [eTypes_len, eBindings_len]; rfl), rfl⟩, trivial⟩, ⟨[], rfl⟩, rfl⟩
          refine goL ?_
          refine V_cb (fun c14 => ?_) (fun c14 => ?_)
          · replace h := cnd_t c14 h
            refine goL ?_
            refine V_ret ?_
            replace h := Option.some.inj h
            subst h
            exact R_rP
          · replace h := cnd_f c14 h
            refine V_skip ?_
            show V _ _ _ _ _
            refine goL ?_
            obtain ⟨x15, hx15, h⟩ := bnd_s h
            obtain ⟨x15_0, x15_1⟩ := x15
            refine VO_r (QR_call (hrec_sAll x2_2 x4_2 a2 hx15)) ?_
            refine goL ?_
            refine V_ret ?_
            replace h := Option.some.inj h
            subst h
            exact R_rP
def b_sAll_l1 (rec_sUnify : TType → TType → (List TBinding) → Option (List TBinding × Bool)) (a1 : List TType) : List TType → Nat → (List TBinding) → Option (List TBinding × Bool)
  | [], y2, y1 => (some (y1, true))
  | x5 :: xs, y2, y1 => bnd (at? a1 (y2 : Int)) fun x6 =>
bnd (rec_sUnify x5 x6 y1) fun x7 =>
(cnd (!x7.2) (
(some (y1, false))) (
b_sAll_l1 rec_sUnify a1 xs (y2 + 1) x7.1))
def b_sAll (rec_sUnify : TType → TType → (List TBinding) → Option (List TBinding × Bool)) (rec_sAll : (List TType) → (List TType) → (List TBinding) → Option (List TBinding × Bool)) (a0 : List TType) (a1 : List TType) (a2 : List TBinding) : Option (List TBinding × Bool) :=
b_sAll_l1 rec_sUnify a1 a0 0 a2
set_option maxHeartbeats 4000000 in
theorem w_sAll {rec_sUnify : TType → TType → (List TBinding) → Option (List TBinding × Bool)} {rec_sAll : (List TType) → (List TType) → (List TBinding) → Option (List TBinding × Bool)} (hrec_sUnify : ∀ (x0 : TType) (x1 : TType) (x2 : List TBinding) {r : List TBinding × Bool}, rec_sUnify x0 x1 x2 = some r → SpecP Try.prog 69 [.d (eType x0), .d (eType x1), .d (.sl 4 (eBindings x2))] [.sl 4 (eBindings r.1), .b r.2]) (hrec_sAll : ∀ (x0 : List TType) (x1 : List TType) (x2 : List TBinding) {r : List TBinding × Bool}, rec_sAll x0 x1 x2 = some r → SpecP Try.prog 50 [.d (.sl 3 (eTypes x0)), .d (.sl 3 (eTypes x1)), .d (.sl 4 (eBindings x2))] [.sl 4 (eBindings r.1), .b r.2]) (a0 : List TType) (a1 : List TType) (a2 : List TBinding) {r : List TBinding × Bool} (h : b_sAll rec_sUnify rec_sAll a0 a1 a2 = some r) : SpecP Try.prog 50 [.d (.sl 3 (eTypes a0)), .d (.sl 3 (eTypes a1)), .d (.sl 4 (eBindings a2))] [.sl 4 (eBindings r.1), .b r.2] := by
  unfold b_sAll at h
  refine SpecP_intro Try.func50 rfl (by kernel_rfl) rfl fun A _ => ?_
  refine goL ?_
  refine V_block ?_
  show V _ _ _ _ _
  refine V_bd 0 (fun z3 => ?_)
  refine V_loop2 (fun (y2 : Nat) (y1 : List TBinding) => ⟨[(0, .d (.sl 3 (eTypes a0))), (1, .d (.sl 3 (eTypes a1))), (2, .d (.sl 4 (eBindings y1))), (8, .d (.i .i64 (y2 : Int)))], [], Try.f50.ntmps⟩) (fun y2 y1 => b_sAll_l1 rec_sUnify a1 (a0.drop y2) y2 y1 = some r) (fun y2 y1 => a0.length - y2) 0 a2 ⟨rfl, ⟨⟨rfl, rfl⟩, ⟨rfl, rfl⟩, ⟨rfl, rfl⟩, ⟨rfl, rfl⟩, trivial⟩, ⟨[], rfl⟩, rfl⟩ h ?_
  rintro y2 y1 h
  refine goL ?_
  refine V_cb (fun c4 => ?_) (fun c4 => ?_)
  · have hky22 := kltN c4
    obtain ⟨x5, hx5, hdx5⟩ := drop_at hky22
    rw [hdx5, b_sAll_l1.eq_2] at h
    obtain ⟨x5_0, x5_1, x5_2⟩ := x5
    refine V_skip ?_
    show V _ _ _ _ _
    refine V_seq (V_block ?_)
    refine goL ?_
    refine VQ_r (QR_ixn y2 (gType hx5)) ?_
    refine goL ?_
    obtain ⟨x6, hx6, h⟩ := bnd_s h
    rw [at_nat] at hx6
    obtain ⟨x6_0, x6_1, x6_2⟩ := x6
    refine VQ_r (QR_ixn y2 (gType hx6)) ?_
    refine goL ?_
    obtain ⟨x7, hx7, h⟩ := bnd_s h
    obtain ⟨x7_0, x7_1⟩ := x7
    refine VQ_r (QR_call (hrec_sUnify (TType.mk x5_0 x5_1 x5_2) (TType.mk x6_0 x6_1 x6_2) y1 hx7)) ?_
    refine goL ?_
    refine V_cb (fun c8 => ?_) (fun c8 => ?_)
    · replace h := cnd_t c8 h
      refine goL ?_
      refine V_ret ?_
      replace h := Option.some.inj h
      subst h
      exact R_rP
    · replace h := cnd_f c8 h
      refine V_skip ?_
      show V _ _ _ _ _
      refine goL ?_
      refine VO_r (QR_inc y2 (by omega)) ?_
      refine goL ?_
      exact ⟨(y2 + 1), x7_0, h, by omega, ⟨rfl, ⟨⟨rfl, rfl⟩, ⟨rfl, rfl⟩, ⟨rfl, rfl⟩, ⟨rfl, rfl⟩, trivial⟩, ⟨_, rfl⟩, rfl⟩⟩
  · have hky22 := kgeN c4
    rw [drop_end hky22, b_sAll_l1.eq_1] at h
    refine V_exit ?_
    show V _ _ _ _ _
    refine goL ?_
    refine V_ret ?_
    replace h := Option.some.inj h
    subst h
    exact R_rP
mutual
def m_sUnify : Nat → TType → TType → (List TBinding) → Option (List TBinding × Bool)
  | 0, _, _, _ => none
  | n + 1, x0, x1, x2 => b_sUnify (m_sUnify n) (m_sAll n) x0 x1 x2
def m_sAll : Nat → (List TType) → (List TType) → (List TBinding) → Option (List TBinding × Bool)
  | 0, _, _, _ => none
  | n + 1, x0, x1, x2 => b_sAll (m_sUnify n) (m_sAll n) x0 x1 x2
end
theorem ss_sUnify : ∀ (n : Nat), (∀ (x0 : TType) (x1 : TType) (x2 : List TBinding) {r : List TBinding × Bool}, m_sUnify n x0 x1 x2 = some r → SpecP Try.prog 69 [.d (eType x0), .d (eType x1), .d (.sl 4 (eBindings x2))] [.sl 4 (eBindings r.1), .b r.2]) ∧ (∀ (x0 : List TType) (x1 : List TType) (x2 : List TBinding) {r : List TBinding × Bool}, m_sAll n x0 x1 x2 = some r → SpecP Try.prog 50 [.d (.sl 3 (eTypes x0)), .d (.sl 3 (eTypes x1)), .d (.sl 4 (eBindings x2))] [.sl 4 (eBindings r.1), .b r.2]) := by
  intro n
  induction n with
  | zero => exact ⟨(by intro x0 x1 x2 r h; cases h), (by intro x0 x1 x2 r h; cases h)⟩
  | succ n ih =>
    obtain ⟨ih0, ih1⟩ := ih
    refine ⟨(fun x0 x1 x2 r h => w_sUnify ih0 ih1 x0 x1 x2 h), (fun x0 x1 x2 r h => w_sAll ih0 ih1 x0 x1 x2 h)⟩
theorem s_sUnify : ∀ (n : Nat) (x0 : TType) (x1 : TType) (x2 : List TBinding) {r : List TBinding × Bool}, m_sUnify n x0 x1 x2 = some r → SpecP Try.prog 69 [.d (eType x0), .d (eType x1), .d (.sl 4 (eBindings x2))] [.sl 4 (eBindings r.1), .b r.2] := fun n => (ss_sUnify n).1
theorem s_sAll : ∀ (n : Nat) (x0 : List TType) (x1 : List TType) (x2 : List TBinding) {r : List TBinding × Bool}, m_sAll n x0 x1 x2 = some r → SpecP Try.prog 50 [.d (.sl 3 (eTypes x0)), .d (.sl 3 (eTypes x1)), .d (.sl 4 (eBindings x2))] [.sl 4 (eBindings r.1), .b r.2] := fun n => (ss_sUnify n).2
def b_l6Copy_l1 : List TBinding → (List TBinding) → Option (List TBinding)
  | [], y1 => (some y1)
  | x6 :: xs, y1 => gd (tok x6.type_) (lt_ (idT x6.type_) fun x8 =>
gd (y1.length + [(TBinding.mk x6.var_ x8)].length ≤ 4294967296) (
b_l6Copy_l1 xs (y1 ++ [(TBinding.mk x6.var_ x8)])))
def b_l6Copy (a0 : List TBinding) : Option (List TBinding) :=
b_l6Copy_l1 a0 []
set_option maxHeartbeats 4000000 in
theorem w_l6Copy (a0 : List TBinding) {r : List TBinding} (h : b_l6Copy a0 = some r) : SpecP Try.prog 51 [.d (.sl 4 (eBindings a0))] [.sl 4 (eBindings r)] := by
  unfold b_l6Copy at h
  refine SpecP_intro Try.func51 rfl (by kernel_rfl) rfl fun A _ => ?_
  refine goL ?_
  refine VO_l0 ?_
  refine goL ?_
  refine V_block ?_
  show V _ _ _ _ _
  refine V_bd 0 (fun z4 => ?_)
  refine V_loop3 (fun (y3 : Nat) (y1 : List TBinding) (v2 : Nat) => ⟨[(0, .d (.sl 4 (eBindings a0))), (3, .sl 0 v2), (4, .d (.i .i64 (y3 : Int)))], [.own 40 4 v2 (eBindings y1)], Try.f51.ntmps⟩) (fun y3 y1 v2 => b_l6Copy_l1 (a0.drop y3) y1 = some r) (fun y3 y1 v2 => a0.length - y3) 0 [] 0 ⟨rfl, ⟨⟨rfl, rfl⟩, ⟨rfl, rfl⟩, ⟨rfl, rfl⟩, trivial⟩, ⟨[], rfl⟩, rfl⟩ h ?_
  rintro y3 y1 v2 h
  refine goL ?_
  refine V_cb (fun c5 => ?_) (fun c5 => ?_)
  · have hky32 := kltN c5
    obtain ⟨x6, hx6, hdx6⟩ := drop_at hky32
    rw [hdx6, b_l6Copy_l1.eq_2] at h
    obtain ⟨x6_0, ⟨x6_1_0, x6_1_1, x6_1_2⟩⟩ := x6
    refine V_skip ?_
    show V _ _ _ _ _
    refine V_seq (V_block ?_)
    refine V_drawX (P := Try.prog) Mix.h [(0, true), (1, true), (2, true), (3, true), (4, true), (5, true), (6, true), (7, true), (8, true), (9, true), (10, true), (11, false), (12, true), (13, false), (14, false), (15, true)] (by kernel_rfl) ?_
    refine goY ?_
    refine VY_ri rfl (QR_ixn y3 (gBinding hx6)) ?_
    refine goY ?_
    refine VY_ri rfl (QR_ixn y3 (gBinding hx6)) ?_
    refine goY ?_
    obtain ⟨g7, h⟩ := gd_s h
    obtain ⟨x8, hx8, h⟩ := lt_x h
    obtain ⟨x8_0, x8_1, x8_2⟩ := x8
    have sx8 := t_sCopyType (TType.mk x6_1_0 x6_1_1 x6_1_2) g7
    rw [hx8] at sx8
    refine VY_co (sx8) ?_
    refine goY ?_
    refine VY_l1t (T := 32) (TBinding.mk x6_0 (TType.mk x8_0 x8_1 x8_2)) ?_
    obtain ⟨g9, h⟩ := gd_s h
    refine VY_ap (T := 32) g9 ?_
    refine goY ?_
    refine VY_nil ?_
    refine goL ?_
    refine VO_r (QR_inc y3 (by omega)) ?_
    refine goL ?_
    exact ⟨(y3 + 1), (y1 ++ [(TBinding.mk x6_0 (TType.mk x8_0 x8_1 x8_2))]), (v2 + 1), h, by omega, ⟨rfl, ⟨⟨rfl, rfl⟩, ⟨rfl, rfl⟩, ⟨rfl, rfl⟩, trivial⟩, ⟨_, rfl⟩, rfl⟩⟩
  · have hky32 := kgeN c5
    rw [drop_end hky32, b_l6Copy_l1.eq_1] at h
    refine V_exit ?_
    show V _ _ _ _ _
    refine goL ?_
    refine V_freezeO 0 rfl rfl ?_
    refine V_ret ?_
    replace h := Option.some.inj h
    subst h
    exact R_rP
def b_sUnifyAll (a0 : List TType) (a1 : List TType) : Option (List TBinding × Bool) :=
(cnd ((a0.length : Int) != (a1.length : Int)) (
(some ([], false))) (
bnd (m_sAll 100000 a0 a1 []) fun x2 =>
(cnd (!x2.2) (
(some ([], false))) (
bnd (b_l6Copy x2.1) fun x4 =>
(some (x4, true))))))
set_option maxHeartbeats 4000000 in
theorem w_sUnifyAll (a0 : List TType) (a1 : List TType) {r : List TBinding × Bool} (h : b_sUnifyAll a0 a1 = some r) : SpecP Try.prog 31 [.d (.sl 3 (eTypes a0)), .d (.sl 3 (eTypes a1))] [.sl 4 (eBindings r.1), .b r.2] := by
  unfold b_sUnifyAll at h
  refine SpecP_intro Try.func31 rfl (by kernel_rfl) rfl fun A _ => ?_
  refine goL ?_
  refine V_cb (fun c1 => ?_) (fun c1 => ?_)
  · replace h := cnd_t c1 h
    refine goL ?_
    refine VO_l0 ?_
    refine goL ?_
    refine V_freezeO 0 rfl rfl ?_
    refine V_ret ?_
    replace h := Option.some.inj h
    subst h
    exact R_rP
  · replace h := cnd_f c1 h
    refine V_skip ?_
    show V _ _ _ _ _
    refine goL ?_
    refine VO_l0 ?_
    refine VO_freezeO 0 rfl rfl ?_
    obtain ⟨x2, hx2, h⟩ := bnd_s h
    obtain ⟨x2_0, x2_1⟩ := x2
    refine VO_k (Q_cl (s_sAll 100000 a0 a1 [] hx2)) ?_
    refine goL ?_
    refine V_cb (fun c3 => ?_) (fun c3 => ?_)
    · replace h := cnd_t c3 h
      refine goL ?_
      refine VO_l0 ?_
      refine goL ?_
      refine V_freezeO 1 rfl rfl ?_
      refine V_ret ?_
      replace h := Option.some.inj h
      subst h
      exact R_rP
    · replace h := cnd_f c3 h
      refine V_skip ?_
      show V _ _ _ _ _
      refine goL ?_
      obtain ⟨x4, hx4, h⟩ := bnd_s h
      refine VO_r (QR_call (w_l6Copy x2_0 hx4)) ?_
      refine goL ?_
      refine V_ret ?_
      replace h := Option.some.inj h
      subst h
      exact R_rP
def b_sUnifyF (a0 : TType) (a1 : TType) : Option (List TBinding × Bool) :=
bnd (b_sUnifyAll [a0] [a1]) fun x1 =>
(some (x1.1, x1.2))
set_option maxHeartbeats 4000000 in
theorem w_sUnifyF (a0 : TType) (a1 : TType) {r : List TBinding × Bool} (h : b_sUnifyF a0 a1 = some r) : SpecP Try.prog 18 [.d (eType a0), .d (eType a1)] [.sl 4 (eBindings r.1), .b r.2] := by
  obtain ⟨a0_0, a0_1, a0_2⟩ := a0
  obtain ⟨a1_0, a1_1, a1_2⟩ := a1
  unfold b_sUnifyF at h
  refine SpecP_intro Try.func18 rfl (by kernel_rfl) rfl fun A _ => ?_
  refine goL ?_
  refine VO_la1 (u := (.st [.i .i64 a0_0, .s a0_1, .sl 3 (eTypes a0_2)])) ?_
  refine goL ?_
  refine VO_la1 (u := (.st [.i .i64 a1_0, .s a1_1, .sl 3 (eTypes a1_2)])) ?_
  refine VO_freeze 2 rfl rfl ?_
  refine VO_freeze 3 rfl rfl ?_
  obtain ⟨x1, hx1, h⟩ := bnd_s h
  obtain ⟨x1_0, x1_1⟩ := x1
  refine VO_k (Q_cl (w_sUnifyAll [(TType.mk a0_0 a0_1 a0_2)] [(TType.mk a1_0 a1_1 a1_2)] hx1)) ?_
  refine goL ?_
  refine V_ret ?_
  replace h := Option.some.inj h
  subst h
  exact R_rP
end Go.Proofs.Ytdofnoeiogjpjaa

namespace Go.Proofs.Ytdofnoeiogjpjaa
open Go Go.Eng
attribute [local irreducible] V VO VQ VY Quiet QR SpecP SpecO MSpec Rng PostP PostO PostG
def b_iUnify_l2 (x9 : TType) (x11 : TType) (k2_0 : (List TBinding) → Option (Bool × List TBinding)) : Nat → Nat → (List TBinding) → Option (Bool × List TBinding)
  | 0, y21, y19 => (k2_0 y19)
  | m24 + 1, y21, y19 => bnd (at? y19 (y21 : Int)) fun x25 =>
gd (bok [(TBinding.mk x11.name x9)] ∧ tok x25.type_) (lt_ (apT [(TBinding.mk x11.name x9)] x25.type_) fun x27 =>
b_iUnify_l2 x9 x11 k2_0 m24 (y21 + 1) (y19.set y21 (TBinding.mk x25.var_ x27)))
def b_iUnify_l3 (x9 : TType) (x11 : TType) (k3_0 : (List TBinding) → Option (Bool × List TBinding)) : Nat → Nat → (List TBinding) → Option (Bool × List TBinding)
  | 0, y40, y38 => (k3_0 y38)
  | m43 + 1, y40, y38 => bnd (at? y38 (y40 : Int)) fun x44 =>
gd (bok [(TBinding.mk x9.name x11)] ∧ tok x44.type_) (lt_ (apT [(TBinding.mk x9.name x11)] x44.type_) fun x46 =>
b_iUnify_l3 x9 x11 k3_0 m43 (y40 + 1) (y38.set y40 (TBinding.mk x44.var_ x46)))
def b_iUnify_l1 (rec_iUnify : (List TBinding) → (List TType) → (List TType) → Option (Bool × List TBinding)) (bs : List TType) : List TType → Nat → (List TBinding) → Option (Bool × List TBinding)
  | [], y3, y1 => (some (true, y1))
  | x6 :: xs, y3, y1 => bnd (at? bs (y3 : Int)) fun x7 =>
gd (bok y1 ∧ tok x6) (lt_ (apT y1 x6) fun x9 =>
gd (bok y1 ∧ tok x7) (lt_ (apT y1 x7) fun x11 =>
(cnd (teq x9 x11) (
b_iUnify_l1 rec_iUnify bs xs (y3 + 1) y1) (
(cnd (decide ((IntKind.i64.wrap ((tsz x9) + (tsz x11))) > 4000)) (
(some (false, []))) (
lt_ ((cnd (x9.kind != 1) ((x11.kind == 1)) (false))) fun b14 =>
(cnd b14 (
(cnd (x11.kind == 1) (
(cnd (b_iOccurs x11.name x9) (
(some (false, []))) (
b_iUnify_l2 x9 x11 (fun y19 => gd (y19.length + [(TBinding.mk x11.name x9)].length ≤ 4294967296) (
b_iUnify_l1 rec_iUnify bs xs (y3 + 1) (y19 ++ [(TBinding.mk x11.name x9)]))) y1.length 0 y1))) (
lt_ ((cnd (x11.kind != x9.kind) (true) ((cnd (!(x11.name == x9.name)) (true) (((x11.args.length : Int) != (x9.args.length : Int))))))) fun b29 =>
(cnd b29 (
(some (false, []))) (
bnd (rec_iUnify y1 x11.args x9.args) fun x33 =>
(cnd (!x33.1) (
(some (false, []))) (
b_iUnify_l1 rec_iUnify bs xs (y3 + 1) x33.2))))))) (
(cnd (x9.kind == 1) (
(cnd (b_iOccurs x9.name x11) (
(some (false, []))) (
b_iUnify_l3 x9 x11 (fun y38 => gd (y38.length + [(TBinding.mk x9.name x11)].length ≤ 4294967296) (
b_iUnify_l1 rec_iUnify bs xs (y3 + 1) (y38 ++ [(TBinding.mk x9.name x11)]))) y1.length 0 y1))) (
lt_ ((cnd (x9.kind != x11.kind) (true) ((cnd (!(x9.name == x11.name)) (true) (((x9.args.length : Int) != (x11.args.length : Int))))))) fun b48 =>
(cnd b48 (
(some (false, []))) (
bnd (rec_iUnify y1 x9.args x11.args) fun x52 =>
(cnd (!x52.1) (
(some (false, []))) (
b_iUnify_l1 rec_iUnify bs xs (y3 + 1) x52.2))))))))))))))
def b_iUnify (rec_iUnify : (List TBinding) → (List TType) → (List TType) → Option (Bool × List TBinding)) (l0 : List TBinding) (as_ : List TType) (bs : List TType) : Option (Bool × List TBinding) :=
b_iUnify_l1 rec_iUnify bs as_ 0 l0
set_option maxHeartbeats 4000000 in
theorem w_iUnify {rec_iUnify : (List TBinding) → (List TType) → (List TType) → Option (Bool × List TBinding)} (hrec_iUnify : ∀ (x0 : List TBinding) (x1 : List TType) (x2 : List TType) (w0 : Nat) {r : Bool × List TBinding}, rec_iUnify x0 x1 x2 = some r → Go.Eng.Spec Try.prog 47 [.sl 0 w0, .d (.sl 3 (eTypes x1)), .d (.sl 3 (eTypes x2))] [.arr 40 4 w0 (eBindings x0)] (fun sv Lo => ∃ v'0, sv = .tup [.sl 0 v'0, .d (.b r.1)] ∧ Lo = [.arr 40 4 v'0 (eBindings r.2)])) (l0 : List TBinding) (as_ : List TType) (bs : List TType) (v0 : Nat) {r : Bool × List TBinding} (h : b_iUnify rec_iUnify l0 as_ bs = some r) : Go.Eng.Spec Try.prog 47 [.sl 0 v0, .d (.sl 3 (eTypes as_)), .d (.sl 3 (eTypes bs))] [.arr 40 4 v0 (eBindings l0)] (fun sv Lo => ∃ v'0, sv = .tup [.sl 0 v'0, .d (.b r.1)] ∧ Lo = [.arr 40 4 v'0 (eBindings r.2)]) := by
  unfold b_iUnify at h
  refine Spec_intro 1 Try.func47 rfl (by kernel_rfl) rfl rfl fun A _ => ?_
  refine goL ?_
  refine V_block ?_
  show V _ _ _ _ _
  refine V_bd 1 (fun z4 => ?_)
  refine V_loop3 (fun (y3 : Nat) (y1 : List TBinding) (v2 : Nat) => ⟨[(0, .sl 0 v2), (1, .d (.sl 3 (eTypes as_))), (2, .d (.sl 3 (eTypes bs))), (16, .d (.i .i64 (as_.length : Int))), (17, .d (.i .i64 (y3 : Int)))], [.arr 40 4 v2 (eBindings y1)], Try.f47.ntmps⟩) (fun y3 y1 v2 => b_iUnify_l1 rec_iUnify bs (as_.drop y3) y3 y1 = some r) (fun y3 y1 v2 => as_.length - y3) 0 l0 v0 ⟨rfl, ⟨⟨rfl, rfl⟩, ⟨rfl, rfl⟩, ⟨rfl, rfl⟩, ⟨rfl, rfl⟩, ⟨rfl, rfl⟩, trivial⟩, ⟨[], rfl⟩, rfl⟩ h ?_
  rintro y3 y1 v2 h
  refine goL ?_
  refine V_seq (V_cb (fun c5 => ?_) (fun c5 => ?_))
  · have hky32 := kltN c5
    obtain ⟨x6, hx6, hdx6⟩ := drop_at hky32
    rw [hdx6, b_iUnify_l1.eq_2] at h
    obtain ⟨x6_0, x6_1, x6_2⟩ := x6
    refine V_skip ?_
    show V _ _ _ _ _
    refine V_seq (V_block ?_)
    refine goNL ?_
    obtain ⟨x7, hx7, h⟩ := bnd_s h
    rw [at_nat] at hx7
    obtain ⟨x7_0, x7_1, x7_2⟩ := x7
    obtain ⟨g8, h⟩ := gd_s h
    obtain ⟨x9, hx9, h⟩ := lt_x h
    obtain ⟨x9_0, x9_1, x9_2⟩ := x9
    have sx9 := t_iApply y1 (TType.mk x6_0 x6_1 x6_2) g8
    rw [hx9] at sx9
    obtain ⟨g10, h⟩ := gd_s h
    obtain ⟨x11, hx11, h⟩ := lt_x h
    obtain ⟨x11_0, x11_1, x11_2⟩ := x11
    have sx11 := t_iApply y1 (TType.mk x7_0 x7_1 x7_2) g10
    rw [hx11] at sx11
    refine V_seq_drawTJ (P := Try.prog) Mix.h (.q 0 (.q 1 (.q 2 (.q 3 (.q 4 (.q 6 (.q 7 (.q 8 (.q 9 (.q 10 (.h 5 (.h 11 (.h 12 (.h 13 (.h 14 (.h 15 .nil .nil) .nil) .nil) (.h 13 (.h 12 (.h 14 (.h 15 .nil .nil) .nil) .nil) .nil)) (.h 12 (.h 11 (.h 13 (.h 14 (.h 15 .nil .nil) .nil) .nil) (.h 13 (.h 11 (.h 14 (.h 15 .nil .nil) .nil) .nil) .nil)) (.h 13 (.h 11 (.h 12 (.h 14 (.h 15 .nil .nil) .nil) .nil) (.h 12 (.h 11 (.h 14 (.h 15 .nil .nil) .nil) .nil) .nil)) .nil))) (.h 12 (.h 5 (.h 11 (.h 13 (.h 14 (.h 15 .nil .nil) .nil) .nil) (.h 13 (.h 11 (.h 14 (.h 15 .nil .nil) .nil) .nil) .nil)) (.h 13 (.h 5 (.h 11 (.h 14 (.h 15 .nil .nil) .nil) .nil) .nil) .nil)) (.h 13 (.h 5 (.h 11 (.h 12 (.h 14 (.h 15 .nil .nil) .nil) .nil) (.h 12 (.h 11 (.h 14 (.h 15 .nil .nil) .nil) .nil) .nil)) (.h 12 (.h 5 (.h 11 (.h 14 (.h 15 .nil .nil) .nil) .nil) .nil) .nil)) .nil))))))))))))) ⟨[(0, .sl 0 v2), (1, .d (.sl 3 (eTypes as_))), (2, .d (.sl 3 (eTypes bs))), (9, .ptr 3 0), (10, .ptr 4 0), (16, .d (.i .i64 (as_.length : Int))), (17, .d (.i .i64 (y3 : Int)))], [.arr 40 4 v2 (eBindings y1), .own 26 3 0 (eTypes x9_2), .own 26 3 0 (eTypes x11_2), .box [.d (.i .i64 x9_0), .d (.s x9_1), .sl 1 0], .box [.d (.i .i64 x11_0), .d (.s x11_1), .sl 2 0]], Try.f47.ntmps⟩ (by kernel_rfl) ?_ ?_
    · refine goT ?_
      refine VT_q (VY_ri rfl (QR_ixn y3 (gType hx6)) VY_e) ?_
      refine goT ?_
      refine VT_q (VY_ri rfl (QR_ixn y3 (gType hx7)) VY_e) ?_
      refine goT ?_
      refine VT_h (VY_co (sx9) VY_e) ?_ ?_
      · refine VT_h (VY_co (sx11) VY_e) ?_ ?_
        · refine VT_h (VY_h rfl (by repeat constructor) (by repeat (first | exact PfOk.nil | (apply PfOk.keep; focus ((repeat constructor); done)) | (apply PfOk.dep; focus kernel_rfl))) VY_e) ?_ ?_
          · refine goT ?_
            refine VT_nil ?_
            exact R_pk 1 [0, 1, 2, 3, 4]
          refine goT ?_
          refine VT_nil ?_
          exact R_pk 1 [0, 1, 2, 4, 3]
        refine VT_h (VY_h rfl (by repeat constructor) (by repeat (first | exact PfOk.nil | (apply PfOk.keep; focus ((repeat constructor); done)) | (apply PfOk.dep; focus kernel_rfl))) VY_e) ?_ ?_
        · refine VT_h (VY_co (sx11) VY_e) ?_ ?_
          · refine goT ?_
            refine VT_nil ?_
            exact R_pk 1 [0, 1, 3, 2, 4]
          refine goT ?_
          refine VT_h1 (VY_co (sx11) VY_e) ?_
          refine goT ?_
          refine VT_nil ?_
          exact R_pk 1 [0, 1, 4, 2, 3]
        refine goT ?_
        refine VT_h (VY_co (sx11) VY_e) ?_ ?_
        · refine goT ?_
          refine VT_nil ?_
          exact R_pk 1 [0, 1, 3, 4, 2]
        refine goT ?_
        refine VT_h1 (VY_co (sx11) VY_e) ?_
        refine goT ?_
        refine VT_nil ?_
        exact R_pk 1 [0, 1, 4, 3, 2]
      refine VT_h (VY_h rfl (by repeat constructor) (by repeat (first | exact PfOk.nil | (apply PfOk.keep; focus ((repeat constructor); done)) | (apply PfOk.dep; focus kernel_rfl))) VY_e) ?_ ?_
      · refine VT_h (VY_co (sx9) VY_e) ?_ ?_
        · refine VT_h (VY_co (sx11) VY_e) ?_ ?_
          · refine goT ?_
            refine VT_nil ?_
            exact R_pk 1 [0, 2, 3, 1, 4]
          refine goT ?_
          refine VT_h1 (VY_co (sx11) VY_e) ?_
          refine goT ?_
          refine VT_nil ?_
          exact R_pk 1 [0, 2, 4, 1, 3]
        refine goT ?_
        refine VT_h1 (VY_co (sx9) VY_e) ?_
        refine VT_h1 (VY_co (sx11) VY_e) ?_
        refine goT ?_
        refine VT_nil ?_
        exact R_pk 1 [0, 3, 4, 1, 2]
      refine goT ?_
      refine VT_h (VY_co (sx9) VY_e) ?_ ?_
      · refine VT_h (VY_co (sx11) VY_e) ?_ ?_
        · refine goT ?_
          refine VT_nil ?_
          exact R_pk 1 [0, 2, 3, 4, 1]
        refine goT ?_
        refine VT_h1 (VY_co (sx11) VY_e) ?_
        refine goT ?_
        refine VT_nil ?_
        exact R_pk 1 [0, 2, 4, 3, 1]
      refine goT ?_
      refine VT_h1 (VY_co (sx9) VY_e) ?_
      refine VT_h1 (VY_co (sx11) VY_e) ?_
      refine goT ?_
      refine VT_nil ?_
      exact R_pk 1 [0, 3, 4, 2, 1]
    refine goL ?_
    refine VO_k (Q_cb (t_iEqualType (TType.mk x9_0 x9_1 x9_2) (TType.mk x11_0 x11_1 x11_2))) ?_
    refine goL ?_
    refine V_cb (fun c12 => ?_) (fun c12 => ?_)
    · replace h := cnd_t c12 h
      refine V_exit ?_
      show V _ _ _ _ _
      refine goL ?_
      refine VO_r (QR_inc y3 (by omega)) ?_
      refine goL ?_
      exact ⟨(y3 + 1), y1, v2, h, by omega, ⟨rfl, ⟨⟨rfl, rfl⟩, ⟨rfl, rfl⟩, ⟨rfl, rfl⟩, ⟨rfl, rfl⟩, ⟨rfl, rfl⟩, trivial⟩, ⟨_, rfl⟩, rfl⟩⟩
    · replace h := cnd_f c12 h
      refine V_skip ?_
      show V _ _ _ _ _
      refine goL ?_
      refine VQ_k (Q_cb (t_iTypeSize (TType.mk x9_0 x9_1 x9_2))) ?_
      refine goL ?_
      refine VQ_k (Q_cb (t_iTypeSize (TType.mk x11_0 x11_1 x11_2))) ?_
      refine VQ_r (QR_ar) ?_
      refine goL ?_
      refine V_cb (fun c13 => ?_) (fun c13 => ?_)
      · replace h := cnd_t c13 h
        refine goL ?_
        refine V_nilA 6 0 ?_
        refine V_ret ?_
        replace h := Option.some.inj h
        subst h
        exact R_rH [.sl 0 (v2 + 1), .d (.b false)] [.arr 40 4 (v2 + 1) []] ⟨(v2 + 1), rfl, rfl⟩
      · replace h := cnd_f c13 h
        refine V_skip ?_
        show V _ _ _ _ _
        refine goL ?_
        obtain ⟨b14, hb14, h⟩ := lt_x h
        refine VO_join ⟨[(0, .sl 0 v2), (1, .d (.sl 3 (eTypes as_))), (2, .d (.sl 3 (eTypes bs))), (9, .ptr 3 0), (10, .ptr 4 0), (16, .d (.i .i64 (as_.length : Int))), (17, .d (.i .i64 (y3 : Int))), (48, .d (.b b14))], [.arr 40 4 v2 (eBindings y1), .own 26 3 0 (eTypes x9_2), .own 26 3 0 (eTypes x11_2), .box [.d (.i .i64 x9_0), .d (.s x9_1), .sl 1 0], .box [.d (.i .i64 x11_0), .d (.s x11_1), .sl 2 0]], Try.f47.ntmps⟩ ?_ ?_
        · refine VO_case 44 (fun c15 => ?_) (fun c15 => ?_)
          · replace hb14 := cnd_t c15 hb14
            refine goL ?_
            cases hb14
            exact ⟨rfl, ⟨⟨rfl, rfl⟩, ⟨rfl, rfl⟩, ⟨rfl, rfl⟩, ⟨rfl, rfl⟩, ⟨rfl, rfl⟩, ⟨rfl, rfl⟩, ⟨rfl, rfl⟩, ⟨rfl, rfl⟩, trivial⟩, ⟨[], rfl⟩, rfl⟩
          · replace hb14 := cnd_f c15 hb14
            refine goL ?_
            cases hb14
            exact ⟨rfl, ⟨⟨rfl, rfl⟩, ⟨rfl, rfl⟩, ⟨rfl, rfl⟩, ⟨rfl, rfl⟩, ⟨rfl, rfl⟩, ⟨rfl, rfl⟩, ⟨rfl, rfl⟩, ⟨rfl, rfl⟩, trivial⟩, ⟨[], rfl⟩, rfl⟩
        refine goL ?_
        refine V_cb (fun c16 => ?_) (fun c16 => ?_)
        · replace h := cnd_t c16 h
          refine goL ?_
          refine V_cb (fun c17 => ?_) (fun c17 => ?_)
          · replace h := cnd_t c17 h
            refine goL ?_
            refine VO_k (Q_cb (w_iOccurs x11_1 (TType.mk x9_0 x9_1 x9_2))) ?_
            refine goL ?_
            refine V_cb (fun c18 => ?_) (fun c18 => ?_)
            · replace h := cnd_t c18 h
              refine goL ?_
              refine V_nilA 6 0 ?_
              refine V_ret ?_
              replace h := Option.some.inj h
              subst h
              exact R_rH [.sl 0 (v2 + 1), .d (.b false)] [.arr 40 4 (v2 + 1) []] ⟨(v2 + 1), rfl, rfl⟩
            · replace h := cnd_f c18 h
              refine V_skip ?_
              show V _ _ _ _ _
              refine goL ?_
              refine VO_k (Q_build TBd.h TZ.h rfl (by repeat constructor)) ?_
              refine VO_freezeO 1 rfl rfl ?_
              refine VO_la1 (u := (.st [.s x11_1, .st [.i .i64 x9_0, .s x9_1, .sl 3 (eTypes x9_2)]])) ?_
              refine goL ?_
              refine V_block ?_
              show V _ _ _ _ _
              refine V_bda 0 (fun z22 => ?_)
              refine V_loop3 (fun (y21 : Nat) (y19 : List TBinding) (v20 : Nat) => ⟨[(0, .sl 0 v20), (1, .d (.sl 3 (eTypes as_))), (2, .d (.sl 3 (eTypes bs))), (11, .sl 5 0), (16, .d (.i .i64 (as_.length : Int))), (17, .d (.i .i64 (y3 : Int))), (64, .d (.i .i64 (y1.length : Int))), (65, .d (.i .i64 (y21 : Int)))], [.arr 40 4 v20 (eBindings y19), .frz 26 3 0 (eTypes x9_2), .own 26 3 0 (eTypes x11_2), .box [.d (.i .i64 x11_0), .d (.s x11_1), .sl 2 0], .box [.d (.i .i64 x9_0), .d (.s x9_1), .sl 1 0], .arr 40 4 0 (eBindings [(TBinding.mk x11_1 (TType.mk x9_0 x9_1 x9_2))])], Try.f47.ntmps⟩) (fun y21 y19 v20 => y21 ≤ y1.length ∧ b_iUnify_l2 (TType.mk x9_0 x9_1 x9_2) (TType.mk x11_0 x11_1 x11_2) (fun y19 => gd (y19.length + [(TBinding.mk (TType.mk x11_0 x11_1 x11_2).name (TType.mk x9_0 x9_1 x9_2))].length ≤ 4294967296) (
b_iUnify_l1 rec_iUnify bs (as_.drop (y3 + 1)) (y3 + 1) (y19 ++ [(TBinding.mk (TType.mk x11_0 x11_1 x11_2).name (TType.mk x9_0 x9_1 x9_2))]))) (y1.length - y21) y21 y19 = some r) (fun y21 y19 v20 => y1.length - y21) 0 y1 v2 ⟨rfl, ⟨⟨rfl, rfl⟩, ⟨rfl, rfl⟩, ⟨rfl, rfl⟩, ⟨rfl, rfl⟩, ⟨rfl, rfl⟩, ⟨rfl, rfl⟩, ⟨rfl, rfl⟩, ⟨rfl, rfl⟩, trivial⟩, ⟨[], rfl⟩, rfl⟩ ⟨by simp, h⟩ ?_
              rintro y21 y19 v20 ⟨hky21, h⟩
              refine goL ?_
              refine V_seq (V_cb (fun c23 => ?_) (fun c23 => ?_))
              · have hky212 := kltN c23
                obtain ⟨m24, hm24⟩ : ∃ m, y1.length - y21 = m + 1 := ⟨y1.length - y21 - 1, by omega⟩
                rw [hm24, b_iUnify_l2.eq_2] at h
                refine V_skip ?_
                show V _ _ _ _ _
                refine V_seq (V_block ?_)
                refine goL ?_
                obtain ⟨x25, hx25, h⟩ := bnd_s h
                rw [at_nat] at hx25
                obtain ⟨x25_0, ⟨x25_1_0, x25_1_1, x25_1_2⟩⟩ := x25
                refine VO_k (Q_ixa y21 (List.getElem?_eq_some_iff.1 hx25).1) ?_
                refine VO_k (Q_fla) ?_
                refine VO_k (Q_lfa [(.s x25_0)] (.st [.i .i64 x25_1_0, .s x25_1_1, .sl 3 (eTypes x25_1_2)]) hx25) ?_
                obtain ⟨g26, h⟩ := gd_s h
                obtain ⟨x27, hx27, h⟩ := lt_x h
                obtain ⟨x27_0, x27_1, x27_2⟩ := x27
                have sx27 := t_iApply [(TBinding.mk x11_1 (TType.mk x9_0 x9_1 x9_2))] (TType.mk x25_1_0 x25_1_1 x25_1_2) g26
                rw [hx27] at sx27
                refine VO_co (sx27) ?_
                refine VO_k (Q_ixa y21 (List.getElem?_eq_some_iff.1 hx25).1) ?_
                refine VO_k (Q_fla) ?_
                refine VO_freezeO 6 rfl rfl ?_
                refine VO_sta [(.s x25_0)] (.st [.i .i64 x25_1_0, .s x25_1_1, .sl 3 (eTypes x25_1_2)]) (.st [.i .i64 x27_0, .s x27_1, .sl 3 (eTypes x27_2)]) (TBinding.mk x25_0 (TType.mk x25_1_0 x25_1_1 x25_1_2)) (TBinding.mk x25_0 (TType.mk x27_0 x27_1 x27_2)) hx25 ?_
                refine goL ?_
                refine VO_r (QR_inc y21 (by omega)) ?_
                refine goL ?_
                rw [show m24 = y1.length - (y21 + 1) by omega] at h
                exact ⟨(y21 + 1), (y19.set y21 (TBinding.mk x25_0 (TType.mk x27_0 x27_1 x27_2))), v20, ⟨by omega, h⟩, by omega, ⟨rfl, ⟨⟨rfl, rfl⟩, ⟨rfl, rfl⟩, ⟨rfl, rfl⟩, ⟨rfl, rfl⟩, ⟨rfl, rfl⟩, ⟨rfl, rfl⟩, ⟨rfl, rfl⟩, ⟨rfl, rfl⟩, trivial⟩, ⟨_, rfl⟩, rfl⟩⟩
              · have hky212 := kgeN c23
                rw [show y1.length - y21 = 0 by omega, b_iUnify_l2.eq_1] at h
                refine V_exit ?_
                show V _ _ _ _ _
                refine goL ?_
                obtain ⟨g28, h⟩ := gd_s h
                refine VO_apa g28 ?_
                refine goL ?_
                refine V_exit ?_
                show V _ _ _ _ _
                refine goL ?_
                refine VO_r (QR_inc y3 (by omega)) ?_
                refine goL ?_
                exact ⟨(y3 + 1), (y19 ++ [(TBinding.mk x11_1 (TType.mk x9_0 x9_1 x9_2))]), (v20 + 1), h, by omega, ⟨rfl, ⟨⟨rfl, rfl⟩, ⟨rfl, rfl⟩, ⟨rfl, rfl⟩, ⟨rfl, rfl⟩, ⟨rfl, rfl⟩, trivial⟩, ⟨_, rfl⟩, rfl⟩⟩
          · replace h := cnd_f c17 h
            refine V_skip ?_
            show V _ _ _ _ _
            refine goL ?_
            obtain ⟨b29, hb29, h⟩ := lt_x h
            refine VO_join ⟨[(0, .sl 0 v2), (1, .d (.sl 3 (eTypes as_))), (2, .d (.sl 3 (eTypes bs))), (9, .ptr 3 0), (10, .ptr 4 0), (16, .d (.i .i64 (as_.length : Int))), (17, .d (.i .i64 (y3 : Int))), (103, .d (.b b29))], [.arr 40 4 v2 (eBindings y1), .own 26 3 0 (eTypes x9_2), .own 26 3 0 (eTypes x11_2), .box [.d (.i .i64 x11_0), .d (.s x11_1), .sl 2 0], .box [.d (.i .i64 x9_0), .d (.s x9_1), .sl 1 0]], Try.f47.ntmps⟩ ?_ ?_
            · refine VO_case 88 (fun c30 => ?_) (fun c30 => ?_) (by first | rfl | (simp only [eTypes_len, eBindings_len]; rfl))
              · replace hb29 := cnd_t c30 hb29
                refine goL ?_
                cases hb29
                exact ⟨rfl, ⟨⟨rfl, rfl⟩, ⟨rfl, rfl⟩, ⟨rfl, rfl⟩, ⟨rfl, rfl⟩, ⟨rfl, rfl⟩, ⟨rfl, rfl⟩, ⟨rfl, rfl⟩, ⟨by first | rfl | (simp only [eTypes_len, eBindings_len]; rfl), rfl⟩, trivial⟩, ⟨[], rfl⟩, rfl⟩
              · replace hb29 := cnd_f c30 hb29
                refine goL ?_
                refine VO_case 95 (fun c31 => ?_) (fun c31 => ?_) (by first | rfl | (simp only [eTypes_len, eBindings_len]; rfl))
                · replace hb29 := cnd_t c31 hb29
                  refine goL ?_
                  cases hb29
                  exact ⟨rfl, ⟨⟨rfl, rfl⟩, ⟨rfl, rfl⟩, ⟨rfl, rfl⟩, ⟨rfl, rfl⟩, ⟨rfl, rfl⟩, ⟨rfl, rfl⟩, ⟨rfl, rfl⟩, ⟨by first | rfl | (simp only [eTypes_len, eBindings_len]; rfl), rfl⟩, trivial⟩, ⟨[], rfl⟩, rfl⟩
                · replace hb29 := cnd_f c31 hb29
                  refine goL ?_
                  cases hb29
                  exact ⟨rfl, ⟨⟨rfl, rfl⟩, ⟨rfl, rfl⟩, ⟨rfl, rfl⟩, ⟨rfl, rfl⟩, ⟨rfl, rfl⟩, ⟨rfl, rfl⟩, ⟨rfl, rfl⟩, ⟨by first | rfl | (simp only [eTypes_len, eBindings_len]; rfl), rfl⟩, trivial⟩, ⟨[], rfl⟩, rfl⟩
            refine goL ?_
            refine V_cb (fun c32 => ?_) (fun c32 => ?_)
            · replace h := cnd_t c32 h
              refine goL ?_
              refine V_nilA 6 0 ?_
              refine V_ret ?_
              replace h := Option.some.inj h
              subst h
              exact R_rH [.sl 0 (v2 + 1), .d (.b false)] [.arr 40 4 (v2 + 1) []] ⟨(v2 + 1), rfl, rfl⟩
            · replace h := cnd_f c32 h
              refine V_skip ?_
              show V _ _ _ _ _
              refine goL ?_
              refine VO_freezeO 2 rfl rfl ?_
              refine VO_freezeO 1 rfl rfl ?_
              obtain ⟨x33, hx33, h⟩ := bnd_s h
              obtain ⟨x33_0, x33_1⟩ := x33
              refine VO_cG [0] (hrec_iUnify y1 x11_2 x9_2 v2 hx33) ?_
              rintro _ _ ⟨v34, rfl, rfl⟩
              show VO _ _ _ _ ⟨(_, .tup [.sl 0 v34, .d (.b x33_0)]) :: _, [.arr 40 4 v34 (eBindings x33_1), .frz 26 3 0 (eTypes x9_2), .frz 26 3 0 (eTypes x11_2), .box [.d (.i .i64 x11_0), .d (.s x11_1), .sl 2 0], .box [.d (.i .i64 x9_0), .d (.s x9_1), .sl 1 0]], _⟩ _
              refine goL ?_
              refine V_cb (fun c35 => ?_) (fun c35 => ?_)
              · replace h := cnd_t c35 h
                refine goL ?_
                refine V_nilA 6 0 ?_
                refine V_ret ?_
                replace h := Option.some.inj h
                subst h
                exact R_rH [.sl 0 (v34 + 1), .d (.b false)] [.arr 40 4 (v34 + 1) []] ⟨(v34 + 1), rfl, rfl⟩
              · replace h := cnd_f c35 h
                refine V_skip ?_
                show V _ _ _ _ _
                refine goL ?_
                refine VO_r (QR_inc y3 (by omega)) ?_
                refine goL ?_
                exact ⟨(y3 + 1), x33_1, v34, h, by omega, ⟨rfl, ⟨⟨rfl, rfl⟩, ⟨rfl, rfl⟩, ⟨rfl, rfl⟩, ⟨rfl, rfl⟩, ⟨rfl, rfl⟩, trivial⟩, ⟨_, rfl⟩, rfl⟩⟩
        · replace h := cnd_f c16 h
          refine V_skip ?_
          show V _ _ _ _ _
          refine goL ?_
          refine V_cb (fun c36 => ?_) (fun c36 => ?_)
          · replace h := cnd_t c36 h
            refine goL ?_
            refine VO_k (Q_cb (w_iOccurs x9_1 (TType.mk x11_0 x11_1 x11_2))) ?_
            refine goL ?_
            refine V_cb (fun c37 => ?_) (fun c37 => ?_)
            · replace h := cnd_t c37 h
              refine goL ?_
              refine V_nilA 6 0 ?_
              refine V_ret ?_
              replace h := Option.some.inj h
              subst h
              exact R_rH [.sl 0 (v2 + 1), .d (.b false)] [.arr 40 4 (v2 + 1) []] ⟨(v2 + 1), rfl, rfl⟩
            · replace h := cnd_f c37 h
              refine V_skip ?_
              show V _ _ _ _ _
              refine goL ?_
              refine VO_k (Q_build TBd.h TZ.h rfl (by repeat constructor)) ?_
              refine VO_freezeO 2 rfl rfl ?_
              refine VO_la1 (u := (.st [.s x9_1, .st [.i .i64 x11_0, .s x11_1, .sl 3 (eTypes x11_2)]])) ?_
              refine goL ?_
              refine V_block ?_
              show V _ _ _ _ _
              refine V_bda 0 (fun z41 => ?_)
              refine V_loop3 (fun (y40 : Nat) (y38 : List TBinding) (v39 : Nat) => ⟨[(0, .sl 0 v39), (1, .d (.sl 3 (eTypes as_))), (2, .d (.sl 3 (eTypes bs))), (11, .sl 5 0), (16, .d (.i .i64 (as_.length : Int))), (17, .d (.i .i64 (y3 : Int))), (64, .d (.i .i64 (y1.length : Int))), (65, .d (.i .i64 (y40 : Int)))], [.arr 40 4 v39 (eBindings y38), .own 26 3 0 (eTypes x9_2), .frz 26 3 0 (eTypes x11_2), .box [.d (.i .i64 x9_0), .d (.s x9_1), .sl 1 0], .box [.d (.i .i64 x11_0), .d (.s x11_1), .sl 2 0], .arr 40 4 0 (eBindings [(TBinding.mk x9_1 (TType.mk x11_0 x11_1 x11_2))])], Try.f47.ntmps⟩) (fun y40 y38 v39 => y40 ≤ y1.length ∧ b_iUnify_l3 (TType.mk x9_0 x9_1 x9_2) (TType.mk x11_0 x11_1 x11_2) (fun y38 => gd (y38.length + [(TBinding.mk (TType.mk x9_0 x9_1 x9_2).name (TType.mk x11_0 x11_1 x11_2))].length ≤ 4294967296) (
b_iUnify_l1 rec_iUnify bs (as_.drop (y3 + 1)) (y3 + 1) (y38 ++ [(TBinding.mk (TType.mk x9_0 x9_1 x9_2).name (TType.mk x11_0 x11_1 x11_2))]))) (y1.length - y40) y40 y38 = some r) (fun y40 y38 v39 => y1.length - y40) 0 y1 v2 ⟨rfl, ⟨⟨rfl, rfl⟩, ⟨rfl, rfl⟩, ⟨rfl, rfl⟩, ⟨rfl, rfl⟩, ⟨rfl, rfl⟩, ⟨rfl, rfl⟩, ⟨rfl, rfl⟩, ⟨rfl, rfl⟩, trivial⟩, ⟨[], rfl⟩, rfl⟩ ⟨by simp, h⟩ ?_
              rintro y40 y38 v39 ⟨hky40, h⟩
              refine goL ?_
              refine V_seq (V_cb (fun c42 => ?_) (fun c42 => ?_))
              · have hky402 := kltN c42
                obtain ⟨m43, hm43⟩ : ∃ m, y1.length - y40 = m + 1 := ⟨y1.length - y40 - 1, by omega⟩
                rw [hm43, b_iUnify_l3.eq_2] at h
                refine V_skip ?_
                show V _ _ _ _ _
                refine V_seq (V_block ?_)
                refine goL ?_
                obtain ⟨x44, hx44, h⟩ := bnd_s h
                rw [at_nat] at hx44
                obtain ⟨x44_0, ⟨x44_1_0, x44_1_1, x44_1_2⟩⟩ := x44
                refine VO_k (Q_ixa y40 (List.getElem?_eq_some_iff.1 hx44).1) ?_
                refine VO_k (Q_fla) ?_
                refine VO_k (Q_lfa [(.s x44_0)] (.st [.i .i64 x44_1_0, .s x44_1_1, .sl 3 (eTypes x44_1_2)]) hx44) ?_
                obtain ⟨g45, h⟩ := gd_s h
                obtain ⟨x46, hx46, h⟩ := lt_x h
                obtain ⟨x46_0, x46_1, x46_2⟩ := x46
                have sx46 := t_iApply [(TBinding.mk x9_1 (TType.mk x11_0 x11_1 x11_2))] (TType.mk x44_1_0 x44_1_1 x44_1_2) g45
                rw [hx46] at sx46
                refine VO_co (sx46) ?_
                refine VO_k (Q_ixa y40 (List.getElem?_eq_some_iff.1 hx44).1) ?_
                refine VO_k (Q_fla) ?_
                refine VO_freezeO 6 rfl rfl ?_
                refine VO_sta [(.s x44_0)] (.st [.i .i64 x44_1_0, .s x44_1_1, .sl 3 (eTypes x44_1_2)]) (.st [.i .i64 x46_0, .s x46_1, .sl 3 (eTypes x46_2)]) (TBinding.mk x44_0 (TType.mk x44_1_0 x44_1_1 x44_1_2)) (TBinding.mk x44_0 (TType.mk x46_0 x46_1 x46_2)) hx44 ?_
                refine goL ?_
                refine VO_r (QR_inc y40 (by omega)) ?_
                refine goL ?_
                rw [show m43 = y1.length - (y40 + 1) by omega] at h
                exact ⟨(y40 + 1), (y38.set y40 (TBinding.mk x44_0 (TType.mk x46_0 x46_1 x46_2))), v39, ⟨by omega, h⟩, by omega, ⟨rfl, ⟨⟨rfl, rfl⟩, ⟨rfl, rfl⟩, ⟨rfl, rfl⟩, ⟨rfl, rfl⟩, ⟨rfl, rfl⟩, ⟨rfl, rfl⟩, ⟨rfl, rfl⟩, ⟨rfl, rfl⟩, trivial⟩, ⟨_, rfl⟩, rfl⟩⟩
              · have hky402 := kgeN c42
                rw [show y1.length - y40 = 0 by omega, b_iUnify_l3.eq_1] at h
                refine V_exit ?_
                show V _ _ _ _ _
                refine goL ?_
                obtain ⟨g47, h⟩ := gd_s h
                refine VO_apa g47 ?_
                refine goL ?_
                refine V_exit ?_
                show V _ _ _ _ _
                refine goL ?_
                refine VO_r (QR_inc y3 (by omega)) ?_
                refine goL ?_
                exact ⟨(y3 + 1), (y38 ++ [(TBinding.mk x9_1 (TType.mk x11_0 x11_1 x11_2))]), (v39 + 1), h, by omega, ⟨rfl, ⟨⟨rfl, rfl⟩, ⟨rfl, rfl⟩, ⟨rfl, rfl⟩, ⟨rfl, rfl⟩, ⟨rfl, rfl⟩, trivial⟩, ⟨_, rfl⟩, rfl⟩⟩
          · replace h := cnd_f c36 h
            refine V_skip ?_
            show V _ _ _ _ _
            refine goL ?_
            obtain ⟨b48, hb48, h⟩ := lt_x h
            refine VO_join ⟨[(0, .sl 0 v2), (1, .d (.sl 3 (eTypes as_))), (2, .d (.sl 3 (eTypes bs))), (9, .ptr 3 0), (10, .ptr 4 0), (16, .d (.i .i64 (as_.length : Int))), (17, .d (.i .i64 (y3 : Int))), (103, .d (.b b48))], [.arr 40 4 v2 (eBindings y1), .own 26 3 0 (eTypes x9_2), .own 26 3 0 (eTypes x11_2), .box [.d (.i .i64 x9_0), .d (.s x9_1), .sl 1 0], .box [.d (.i .i64 x11_0), .d (.s x11_1), .sl 2 0]], Try.f47.ntmps⟩ ?_ ?_
            · refine VO_case 88 (fun c49 => ?_) (fun c49 => ?_) (by first | rfl | (simp only [eTypes_len, eBindings_len]; rfl))
              · replace hb48 := cnd_t c49 hb48
                refine goL ?_
                cases hb48
                exact ⟨rfl, ⟨⟨rfl, rfl⟩, ⟨rfl, rfl⟩, ⟨rfl, rfl⟩, ⟨rfl, rfl⟩, ⟨rfl, rfl⟩, ⟨rfl, rfl⟩, ⟨rfl, rfl⟩, ⟨by first | rfl | (simp only [eTypes_len, eBindings_len]; rfl), rfl⟩, trivial⟩, ⟨[], rfl⟩, rfl⟩
              · replace hb48 := cnd_f c49 hb48
                refine goL ?_
                refine VO_case 95 (fun c50 => ?_) (fun c50 => ?_) (by first | rfl | (simp only [eTypes_len, eBindings_len]; rfl))
                · replace hb48 := cnd_t c50 hb48
                  refine goL ?_
                  cases hb48
                  exact ⟨rfl, ⟨⟨rfl, rfl⟩, ⟨rfl, rfl⟩, ⟨rfl, rfl⟩, ⟨rfl, rfl⟩, ⟨rfl, rfl⟩, ⟨rfl, rfl⟩, ⟨rfl, rfl⟩, ⟨by first | rfl | (simp only [eTypes_len, eBindings_len]; rfl), rfl⟩, trivial⟩, ⟨[], rfl⟩, rfl⟩
                · replace hb48 := cnd_f c50 hb48
                  refine goL ?_
                  cases hb48
                  exact ⟨rfl, ⟨⟨rfl, rfl⟩, ⟨rfl, rfl⟩, ⟨rfl, rfl⟩, ⟨rfl, rfl⟩, ⟨rfl, rfl⟩, ⟨rfl, rfl⟩, ⟨rfl, rfl⟩, ⟨by first | rfl | (simp only [eTypes_len, eBindings_len]; rfl), rfl⟩, trivial⟩, ⟨[], rfl⟩, rfl⟩
            refine goL ?_
            refine V_cb (fun c51 => ?_) (fun c51 => ?_)
            · replace h := cnd_t c51 h
              refine goL ?_
              refine V_nilA 6 0 ?_
              refine V_ret ?_
              replace h := Option.some.inj h
              subst h
              exact R_rH [.sl 0 (v2 + 1), .d (.b false)] [.arr 40 4 (v2 + 1) []] ⟨(v2 + 1), rfl, rfl⟩
            · replace h := cnd_f c51 h
              refine V_skip ?_
              show V _ _ _ _ _
              refine goL ?_
              refine VO_freezeO 1 rfl rfl ?_
              refine VO_freezeO 2 rfl rfl ?_
              obtain ⟨x52, hx52, h⟩ := bnd_s h
              obtain ⟨x52_0, x52_1⟩ := x52
              refine VO_cG [0] (hrec_iUnify y1 x9_2 x11_2 v2 hx52) ?_
              rintro _ _ ⟨v53, rfl, rfl⟩
              show VO _ _ _ _ ⟨(_, .tup [.sl 0 v53, .d (.b x52_0)]) :: _, [.arr 40 4 v53 (eBindings x52_1), .frz 26 3 0 (eTypes x9_2), .frz 26 3 0 (eTypes x11_2), .box [.d (.i .i64 x9_0), .d (.s x9_1), .sl 1 0], .box [.d (.i .i64 x11_0), .d (.s x11_1), .sl 2 0]], _⟩ _
              refine goL ?_
              refine V_cb (fun c54 => ?_) (fun c54 => ?_)
              · replace h := cnd_t c54 h
                refine goL ?_
                refine V_nilA 6 0 ?_
                refine V_ret ?_
                replace h := Option.some.inj h
                subst h
                exact R_rH [.sl 0 (v53 + 1), .d (.b false)] [.arr 40 4 (v53 + 1) []] ⟨(v53 + 1), rfl, rfl⟩
              · replace h := cnd_f c54 h
                refine V_skip ?_
                show V _ _ _ _ _
                refine goL ?_
                refine VO_r (QR_inc y3 (by omega)) ?_
                refine goL ?_
                exact ⟨(y3 + 1), x52_1, v53, h, by omega, ⟨rfl, ⟨⟨rfl, rfl⟩, ⟨rfl, rfl⟩, ⟨rfl, rfl⟩, ⟨rfl, rfl⟩, ⟨rfl, rfl⟩, trivial⟩, ⟨_, rfl⟩, rfl⟩⟩
  · have hky32 := kgeN c5
    rw [drop_end hky32, b_iUnify_l1.eq_1] at h
    refine V_exit ?_
    show V _ _ _ _ _
    refine goL ?_
    refine V_ret ?_
    replace h := Option.some.inj h
    subst h
    exact R_rH [.sl 0 v2, .d (.b true)] [.arr 40 4 v2 (eBindings y1)] ⟨v2, rfl, rfl⟩
def m_iUnify : Nat → (List TBinding) → (List TType) → (List TType) → Option (Bool × List TBinding)
  | 0, _, _, _ => none
  | n + 1, x0, x1, x2 => b_iUnify (m_iUnify n) x0 x1 x2
theorem s_iUnify : ∀ (n : Nat) (x0 : List TBinding) (x1 : List TType) (x2 : List TType) (w0 : Nat) {r : Bool × List TBinding}, m_iUnify n x0 x1 x2 = some r → Go.Eng.Spec Try.prog 47 [.sl 0 w0, .d (.sl 3 (eTypes x1)), .d (.sl 3 (eTypes x2))] [.arr 40 4 w0 (eBindings x0)] (fun sv Lo => ∃ v'0, sv = .tup [.sl 0 v'0, .d (.b r.1)] ∧ Lo = [.arr 40 4 v'0 (eBindings r.2)]) := by
  intro n
  induction n with
  | zero => intro x0 x1 x2 w0 r h; cases h
  | succ n ih => intro x0 x1 x2 w0 r h; exact w_iUnify ih x0 x1 x2 w0 h
end Go.Proofs.Ytdofnoeiogjpjaa

namespace Go.Proofs.Ytdofnoeiogjpjaa
open Go Go.Eng
attribute [local irreducible] V VO VQ VY Quiet QR SpecP SpecO MSpec Rng PostP PostO PostG
/-! ### unification, by hand: variables, sizes, substitution -/
mutual
def tvs : TType → List (List UInt8)
  | ⟨k, n, ts⟩ => (if k = 1 then [n] else []) ++ tvss ts
def tvss : List TType → List (List UInt8)
  | [] => []
  | a :: ts => tvs a ++ tvss ts
end
theorem tvss_mem {v : List UInt8} : ∀ {ts : List TType}, v ∈ tvss ts ↔ ∃ t ∈ ts, v ∈ tvs t
  | [] => by simp [tvss]
  | a :: ts => by simp [tvss, tvss_mem (ts := ts)]
theorem wrap_sm {n : Int} (h0 : 0 ≤ n) (h1 : n ≤ 4611686018427387904) : IntKind.i64.wrap n = n := wrap_in n (by omega) (by omega)
mutual
theorem tvs_len : ∀ (t : TType), (tvs t).length ≤ tnd t
  | ⟨k, n, ts⟩ => by
    have := tvss_len ts
    simp only [tvs, tnd, List.length_append]
    split <;> simp <;> omega
theorem tvss_len : ∀ (ts : List TType), (tvss ts).length ≤ tnds ts
  | [] => by simp [tvss]
  | a :: ts => by
    have h1 := tvs_len a
    have h2 := tvss_len ts
    simp only [tvss, tnds, List.length_append]
    omega
end
theorem cnt_le (v : List UInt8) (l : List (List UInt8)) : l.count v ≤ l.length := List.count_le_length
mutual
theorem tsz_big : ∀ (t : TType), tnd t ≤ 4611686018427387904 → tsz t = tnd t
  | ⟨k, n, ts⟩, h => by
    simp only [tnd] at h
    simp only [tsz, tnd]
    rw [tszs_big ts 1 (by omega) (by omega)]
    omega
theorem tszs_big : ∀ (ts : List TType) (y : Int), 0 ≤ y → y + tnds ts ≤ 4611686018427387904 → tszs ts y = y + tnds ts
  | [], y, _, _ => by simp [tszs, tnds]
  | a :: ts, y, h0, h => by
    simp only [tnds] at h
    simp only [tszs, tnds]
    rw [tsz_big a (by omega), wrap_sm (by omega) (by omega), tszs_big ts _ (by omega) (by omega)]
    omega
end
mutual
theorem ctc_eq (v : List UInt8) : ∀ (t : TType) (n : Int), 0 ≤ n → n + tnd t ≤ 4611686018427387904 → ctc v n t = n + (tvs t).count v
  | ⟨k, s, ts⟩, n, h0, h => by
    simp only [tnd] at h
    have h1 : ∀ m : Int, (m = n ∨ m = n + 1) → ctcs v m ts = m + (tvss ts).count v := fun m hm => ctcs_eq v ts m (by omega) (by omega)
    simp only [ctc, tvs, List.count_append]
    by_cases hk : k = 1
    · subst hk
      by_cases hs : s = v
      · subst hs
        simp only [beq_self_eq_true, cnd_true, if_true, List.count_singleton]
        rw [wrap_sm (by omega) (by omega), h1 _ (.inr rfl)]
        simp
        omega
      · simp only [beq_self_eq_true, cnd_true, if_true, List.count_singleton, beq_false_of_ne hs, cnd_false]
        rw [h1 _ (.inl rfl)]
        simp
    · simp only [beq_false_of_ne hk, cnd_false, if_neg hk, List.count_nil, Nat.zero_add]
      exact h1 _ (.inl rfl)
theorem ctcs_eq (v : List UInt8) : ∀ (ts : List TType) (n : Int), 0 ≤ n → n + tnds ts ≤ 4611686018427387904 → ctcs v n ts = n + (tvss ts).count v
  | [], n, _, _ => by simp [ctcs, tvss]
  | a :: ts, n, h0, h => by
    simp only [tnds] at h
    have h2 := cnt_le v (tvs a)
    have h3 := tvs_len a
    simp only [ctcs, tvss, List.count_append]
    rw [ctc_eq v a n h0 (by omega), ctcs_eq v ts _ (by omega) (by omega)]
    omega
end
mutual
theorem ctn_eq (v : List UInt8) : ∀ (t : TType), tnd t ≤ 4611686018427387904 → ctn t v = (tvs t).count v
  | ⟨k, s, ts⟩, h => by
    simp only [tnd] at h
    have h1 : ∀ m : Int, (m = 0 ∨ m = 1) → ctns ts v m = m + (tvss ts).count v := fun m hm => ctns_eq v ts m (by omega) (by omega)
    simp only [ctn, tvs, List.count_append]
    by_cases hk : k = 1
    · subst hk
      by_cases hs : s = v
      · subst hs
        simp only [beq_self_eq_true, cnd_true, if_true, List.count_singleton]
        rw [h1 _ (.inr rfl)]
        simp
      · simp only [beq_self_eq_true, cnd_true, if_true, List.count_singleton, beq_false_of_ne hs, cnd_false]
        rw [h1 _ (.inl rfl)]
        simp
    · simp only [beq_false_of_ne hk, cnd_false, if_neg hk, List.count_nil, Nat.zero_add]
      rw [h1 _ (.inl rfl)]
      simp
theorem ctns_eq (v : List UInt8) : ∀ (ts : List TType) (n : Int), 0 ≤ n → n + tnds ts ≤ 4611686018427387904 → ctns ts v n = n + (tvss ts).count v
  | [], n, _, _ => by simp [ctns, tvss]
  | a :: ts, n, h0, h => by
    simp only [tnds] at h
    have h2 := cnt_le v (tvs a)
    have h3 := tvs_len a
    simp only [ctns, tvss, List.count_append]
    rw [ctn_eq v a (by omega), wrap_sm (by omega) (by omega), ctns_eq v ts _ (by omega) (by omega)]
    omega
end
theorem iOcc {v : List UInt8} {t : TType} (h : tnd t ≤ 4611686018427387904) : b_iOccurs v t = decide (v ∈ tvs t) := by
  have e : b_iCount t v = ((tvs t).count v : Int) := by
    show ctc v 0 t = _
    rw [ctc_eq v t 0 (by omega) (by omega)]
    simp
  simp only [b_iOccurs, e]
  by_cases hm : v ∈ tvs t
  · have := List.count_pos_iff.2 hm
    simp [hm]
  · simp [hm, List.count_eq_zero_of_not_mem hm]
theorem sOcc {v : List UInt8} {t : TType} (h : tnd t ≤ 4611686018427387904) : b_sOccurs v t = decide (v ∈ tvs t) := by
  simp only [b_sOccurs, ctn_eq v t h]
  by_cases hm : v ∈ tvs t
  · have := List.count_pos_iff.2 hm
    simp [hm]
  · simp [hm, List.count_eq_zero_of_not_mem hm]
def dom (l : List TBinding) : List (List UInt8) := l.map TBinding.var_
theorem lkp_out {v : List UInt8} : ∀ {l : List TBinding}, v ∉ dom l → (lkp v l).2 = false
  | [], _ => rfl
  | b :: l, h => by
    simp only [dom, List.map_cons, List.mem_cons, not_or] at h
    simp only [lkp]
    rw [beq_false_of_ne (fun e => h.1 e.symm)]
    exact lkp_out (l := l) h.2
theorem lkp_in {v : List UInt8} {l : List TBinding} (h : v ∈ dom l) : (lkp v l).2 = true := by
  cases hb : (lkp v l).2 with
  | true => rfl
  | false =>
    exfalso
    induction l with
    | nil => simp [dom] at h
    | cons b l ih =>
      simp only [lkp] at hb
      by_cases e : b.var_ = v
      · subst e; simp [cnd_true] at hb
      · rw [beq_false_of_ne e] at hb
        simp only [dom, List.map_cons, List.mem_cons] at h
        exact ih (h.resolve_left (fun e' => e e'.symm)) hb
mutual
theorem apT_out {l : List TBinding} : ∀ (t : TType), (∀ v ∈ tvs t, v ∉ dom l) → apT l t = t
  | ⟨k, n, ts⟩, h => by
    have h1 := apTs_out (l := l) ts (fun v hv => h v (by simp [tvs, hv]))
    simp only [apT, h1]
    by_cases hk : k = 1
    · rw [lkp_out (h n (by simp [tvs, hk]))]
      cases (k == 1) <;> rfl
    · rw [beq_false_of_ne hk]
      simp [cnd_false]
theorem apTs_out {l : List TBinding} : ∀ (ts : List TType), (∀ v ∈ tvss ts, v ∉ dom l) → apTs l ts = ts
  | [], _ => rfl
  | a :: ts, h => by
    simp only [apTs]
    rw [apT_out a (fun v hv => h v (by simp [tvss, hv])), apTs_out ts (fun v hv => h v (by simp [tvss, hv]))]
end
mutual
theorem tvs_ap {l : List TBinding} {v : List UInt8} : ∀ (t : TType), v ∈ tvs (apT l t) → (v ∈ tvs t ∧ v ∉ dom l) ∨ ∃ b ∈ l, v ∈ tvs b.type_
  | ⟨k, n, ts⟩, h => by
    have key : v ∈ tvss (apTs l ts) → (v ∈ tvs ⟨k, n, ts⟩ ∧ v ∉ dom l) ∨ ∃ b ∈ l, v ∈ tvs b.type_ := fun h => (tvss_ap ts h).imp (fun h => ⟨by simp [tvs, h.1], h.2⟩) id
    simp only [apT] at h
    by_cases hk : k = 1
    · subst hk
      cases hb : (lkp n l).2 with
      | true =>
        rw [hb] at h
        simp only [beq_self_eq_true, cnd_true] at h
        obtain ⟨b, h1, _, h3⟩ := lkp_mem hb
        rw [h3] at h
        exact .inr ⟨b, h1, h⟩
      | false =>
        rw [hb] at h
        simp only [beq_self_eq_true, cnd_true, cnd_false, tvs, if_true, List.mem_append, List.mem_singleton] at h
        rcases h with rfl | h
        · refine .inl ⟨by simp [tvs], fun hd => ?_⟩
          rw [lkp_in hd] at hb
          cases hb
        · exact key h
    · rw [beq_false_of_ne hk] at h
      simp only [cnd_false, tvs, if_neg hk, List.nil_append] at h
      exact key h
theorem tvss_ap {l : List TBinding} {v : List UInt8} : ∀ (ts : List TType), v ∈ tvss (apTs l ts) → (v ∈ tvss ts ∧ v ∉ dom l) ∨ ∃ b ∈ l, v ∈ tvs b.type_
  | [], h => by simp [apTs, tvss] at h
  | a :: ts, h => by
    simp only [apTs, tvss, List.mem_append] at h
    rcases h with h | h
    · exact (tvs_ap a h).imp (fun h => ⟨by simp [tvss, h.1], h.2⟩) id
    · exact (tvss_ap ts h).imp (fun h => ⟨by simp [tvss, h.1], h.2⟩) id
end
/-- A variable is bound. -/
def bindL (l : List TBinding) (v : List UInt8) (y : TType) : List TBinding := l.map (fun b => ⟨b.var_, apT [⟨v, y⟩] b.type_⟩) ++ [⟨v, y⟩]
theorem dom_bind (l : List TBinding) (v : List UInt8) (y : TType) : dom (bindL l v y) = dom l ++ [v] := by
  simp [dom, bindL]
theorem lkp_bind (v : List UInt8) (y : TType) (n : List UInt8) : ∀ (l : List TBinding), lkp n (bindL l v y) = cnd (lkp n l).2 (apT [⟨v, y⟩] (lkp n l).1, true) (lkp n [⟨v, y⟩])
  | [] => by simp [bindL, lkp, cnd_false]
  | b :: l => by
    have h := lkp_bind v y n l
    simp only [bindL, List.map_cons, List.cons_append, lkp] at h ⊢
    cases b.var_ == n with
    | true => simp [cnd_true]
    | false => simpa [cnd_false] using h
mutual
theorem apT_bind (l : List TBinding) (v : List UInt8) (y : TType) : ∀ (t : TType), apT (bindL l v y) t = apT [⟨v, y⟩] (apT l t)
  | ⟨k, n, ts⟩ => by
    have h1 := apTs_bind l v y ts
    simp only [apT, h1, lkp_bind]
    by_cases hk : k = 1
    · subst hk
      cases hb : (lkp n l).2 with
      | true => simp [cnd_true]
      | false => simp [apT, cnd_true, cnd_false]
    · rw [beq_false_of_ne hk]
      simp [apT, beq_false_of_ne hk, cnd_false]
theorem apTs_bind (l : List TBinding) (v : List UInt8) (y : TType) : ∀ (ts : List TType), apTs (bindL l v y) ts = apTs [⟨v, y⟩] (apTs l ts)
  | [] => rfl
  | a :: ts => by simp only [apTs, apT_bind l v y a, apTs_bind l v y ts]
end

end Go.Proofs.Ytdofnoeiogjpjaa

namespace Go.Proofs.Ytdofnoeiogjpjaa
open Go Go.Eng
attribute [local irreducible] V VO VQ VY Quiet QR SpecP SpecO MSpec Rng PostP PostO PostG
/-! ### unification, by hand: what binds, and what comes out -/
structure Inv (V : List (List UInt8)) (l : List TBinding) : Prop where
  nd : (dom l).Nodup
  dv : ∀ v ∈ dom l, v ∈ V
  rv : ∀ b ∈ l, ∀ v ∈ tvs b.type_, v ∈ V ∧ v ∉ dom l
  sz : ∀ b ∈ l, tnd b.type_ ≤ 4000 ^ l.length
  ok : bok l
structure Good (V : List (List UInt8)) (t : TType) : Prop where
  vs : ∀ v ∈ tvs t, v ∈ V
  sz : tnd t ≤ 4000
  ok : tok t
theorem nodup_le : ∀ {l V : List (List UInt8)}, l.Nodup → (∀ v ∈ l, v ∈ V) → l.length ≤ V.length
  | [], _, _, _ => Nat.zero_le _
  | a :: l, V, h, hs => by
    obtain ⟨h1, h2⟩ := List.nodup_cons.1 h
    have ha : a ∈ V := hs a (by simp)
    have h3 : l.length ≤ (V.erase a).length := nodup_le h2 (fun v hv => (List.mem_erase_of_ne (fun e => h1 (by rw [← e]; exact hv))).2 (hs v (by simp [hv])))
    rw [List.length_erase_of_mem ha] at h3
    have := List.length_pos_of_mem ha
    simp only [List.length_cons]
    omega
theorem p4 (n : Nat) : 1 ≤ 4000 ^ n := by
  induction n with
  | zero => simp
  | succ n ih => rw [Nat.pow_succ]; omega
section
variable {V : List (List UInt8)} {l : List TBinding}
theorem Inv.len (h : Inv V l) (hV : V.length ≤ 4) : l.length ≤ 4 := by
  have := nodup_le h.nd h.dv
  simp only [dom, List.length_map] at this
  omega
theorem pow_le4 {n : Nat} (h : n ≤ 4) : 4000 ^ n ≤ 256000000000000 := by
  rcases n with _ | _ | _ | _ | _ | n
  · decide
  · decide
  · decide
  · decide
  · decide
  · omega
theorem Inv.big (h : Inv V l) (hV : V.length ≤ 4) {t : TType} (ht : tnd t ≤ 4000) : tnd (apT l t) ≤ 1024000000000000000 := by
  have h1 := apT_tnd (M := 4000 ^ l.length) ⟨p4 _, h.sz⟩ t
  have h2 := pow_le4 (h.len hV)
  have h3 : 4000 ^ l.length * tnd t ≤ 256000000000000 * 4000 := Nat.mul_le_mul h2 ht
  omega
theorem Inv.vars (h : Inv V l) {t : TType} (ht : Good V t) : ∀ v ∈ tvs (apT l t), v ∈ V ∧ v ∉ dom l := by
  intro v hv
  rcases tvs_ap t hv with ⟨h1, h2⟩ | ⟨b, h1, h2⟩
  · exact ⟨ht.vs v h1, h2⟩
  · exact h.rv b h1 v h2
theorem Inv.idem (h : Inv V l) (t : TType) : apT l (apT l t) = apT l t := apT_out _ (fun v hv => by
  rcases tvs_ap t hv with ⟨_, h2⟩ | ⟨b, h1, h2⟩
  · exact h2
  · exact (h.rv b h1 v h2).2)
theorem tvs_one {v w : List UInt8} {y : TType} {t : TType} (h : w ∈ tvs (apT [⟨v, y⟩] t)) : (w ∈ tvs t ∧ w ≠ v) ∨ w ∈ tvs y := by
  rcases tvs_ap t h with ⟨h1, h2⟩ | ⟨b, h1, h2⟩
  · exact .inl ⟨h1, by simpa [dom] using h2⟩
  · simp only [List.mem_singleton] at h1
    subst h1
    exact .inr h2
theorem Inv.bind (h : Inv V l) {v : List UInt8} {y : TType} (hv : v ∈ V ∧ v ∉ dom l) (hy : ∀ w ∈ tvs y, w ∈ V ∧ w ∉ dom l) (hn : v ∉ tvs y) (hs : tnd y ≤ 4000) (ho : tok y) : Inv V (bindL l v y) := by
  have hlen : (bindL l v y).length = l.length + 1 := by simp [bindL]
  have hone : bnds 4000 [⟨v, y⟩] := ⟨by decide, by simpa using hs⟩
  have hp : 4000 ^ (l.length + 1) = 4000 ^ l.length * 4000 := by rw [Nat.pow_succ]
  have hpos : 1 ≤ 4000 ^ l.length := p4 _
  refine ⟨?_, ?_, ?_, ?_, ?_⟩
  · rw [dom_bind]
    refine List.nodup_append.2 ⟨h.nd, by simp, fun a ha b hb hab => ?_⟩
    simp only [List.mem_singleton] at hb
    subst hb; subst hab
    exact hv.2 ha
  · intro w hw
    rw [dom_bind] at hw
    simp only [List.mem_append, List.mem_singleton] at hw
    rcases hw with hw | rfl
    · exact h.dv w hw
    · exact hv.1
  · intro b hb w hw
    rw [dom_bind]
    simp only [bindL, List.mem_append, List.mem_map, List.mem_singleton] at hb ⊢
    have hY : w ∈ tvs y → w ∈ V ∧ ¬ (w ∈ dom l ∨ w = v) := fun hw => ⟨(hy w hw).1, fun h => h.elim (hy w hw).2 (fun e => hn (e ▸ hw))⟩
    rcases hb with ⟨c, hc, rfl⟩ | rfl
    · rcases tvs_one hw with ⟨h1, h2⟩ | h1
      · have := h.rv c hc w h1
        exact ⟨this.1, fun h => h.elim this.2 h2⟩
      · exact hY h1
    · exact hY hw
  · intro b hb
    rw [hlen, hp]
    simp only [bindL, List.mem_append, List.mem_map, List.mem_singleton] at hb
    rcases hb with ⟨c, hc, rfl⟩ | rfl
    · have h1 := apT_tnd hone c.type_
      have h2 := h.sz c hc
      have h3 : 4000 * tnd c.type_ ≤ 4000 * 4000 ^ l.length := Nat.mul_le_mul_left _ h2
      show tnd (apT [⟨v, y⟩] c.type_) ≤ _
      omega
    · show tnd y ≤ _
      omega
  · intro b hb
    simp only [bindL, List.mem_append, List.mem_map, List.mem_singleton] at hb
    rcases hb with ⟨c, hc, rfl⟩ | rfl
    · exact apT_tok (fun b hb => by simp at hb; subst hb; exact ho) _ (h.ok c hc)
    · exact ho
end
/-- What comes out of a row of pairs. -/
structure Post (V : List (List UInt8)) (l l' : List TBinding) (as_ bs : List TType) : Prop where
  inv : Inv V l'
  grow : l' = l ∨ l.length < l'.length
  ext : ∀ t, apT l' (apT l t) = apT l' t
  eq : apTs l' as_ = apTs l' bs
theorem l2_eq (y : TType) (x : TType) (k : List TBinding → Option (Bool × List TBinding)) (hb : bok [⟨x.name, y⟩]) : ∀ (m j : Nat) (l : List TBinding), l.length = j + m → (∀ b ∈ l.drop j, tok b.type_) → b_iUnify_l2 y x k m j l = k (l.take j ++ (l.drop j).map (fun b => ⟨b.var_, apT [⟨x.name, y⟩] b.type_⟩))
  | 0, j, l, h, _ => by
    simp only [b_iUnify_l2]
    rw [List.take_of_length_le (by omega), List.drop_of_length_le (by omega)]
    simp
  | m + 1, j, l, h, ht => by
    have hj : j < l.length := by omega
    have hd := List.drop_eq_getElem_cons hj
    have ht0 : tok l[j].type_ := ht _ (by rw [hd]; exact List.mem_cons_self)
    simp only [b_iUnify_l2, at_nat]
    rw [List.getElem?_eq_getElem hj]
    simp only [bnd, lt_]
    rw [gd_eq ⟨hb, ht0⟩, l2_eq y x k hb m (j + 1) _ (by simp; omega) (fun b hb' => ht b (by
      rw [List.drop_set_of_lt (by omega)] at hb'
      rw [hd]; exact List.mem_cons_of_mem _ hb')), hd, List.drop_set_of_lt (by omega), take_set_succ hj, List.map_cons, List.append_assoc]
    rfl
theorem l3_eq (x : TType) (y : TType) (k : List TBinding → Option (Bool × List TBinding)) (hb : bok [⟨x.name, y⟩]) : ∀ (m j : Nat) (l : List TBinding), l.length = j + m → (∀ b ∈ l.drop j, tok b.type_) → b_iUnify_l3 x y k m j l = k (l.take j ++ (l.drop j).map (fun b => ⟨b.var_, apT [⟨x.name, y⟩] b.type_⟩))
  | 0, j, l, h, _ => by
    simp only [b_iUnify_l3]
    rw [List.take_of_length_le (by omega), List.drop_of_length_le (by omega)]
    simp
  | m + 1, j, l, h, ht => by
    have hj : j < l.length := by omega
    have hd := List.drop_eq_getElem_cons hj
    have ht0 : tok l[j].type_ := ht _ (by rw [hd]; exact List.mem_cons_self)
    simp only [b_iUnify_l3, at_nat]
    rw [List.getElem?_eq_getElem hj]
    simp only [bnd, lt_]
    rw [gd_eq ⟨hb, ht0⟩, l3_eq x y k hb m (j + 1) _ (by simp; omega) (fun b hb' => ht b (by
      rw [List.drop_set_of_lt (by omega)] at hb'
      rw [hd]; exact List.mem_cons_of_mem _ hb')), hd, List.drop_set_of_lt (by omega), take_set_succ hj, List.map_cons, List.append_assoc]
    rfl
theorem sBound_l1_eq (v : List UInt8) (y : TType) (hb : bok [⟨v, y⟩]) : ∀ (xs r : List TBinding), (∀ b ∈ xs, tok b.type_) → r.length + xs.length ≤ 4000000 → b_sBound_l1 v y xs r = some (r ++ xs.map (fun b => ⟨b.var_, apT [⟨v, y⟩] b.type_⟩) ++ [⟨v, y⟩])
  | [], r, _, h => by
    simp only [b_sBound_l1, lt_, idT]
    rw [gd_eq (hb ⟨v, y⟩ (by simp)), gd_eq (by simp at h ⊢; omega)]
    simp
  | x :: xs, r, ht, h => by
    simp only [List.length_cons] at h
    simp only [b_sBound_l1, lt_]
    rw [gd_eq ⟨hb, ht x (by simp)⟩, gd_eq (by simp; omega), sBound_l1_eq v y hb xs _ (fun b hb' => ht b (by simp [hb'])) (by simp; omega)]
    simp
theorem sBound_eq (l : List TBinding) (v : List UInt8) (y : TType) (hl : bok l) (hy : tok y) (h : l.length ≤ 4) : b_sBound l v y = some (bindL l v y) := by
  unfold b_sBound
  rw [sBound_l1_eq v y (fun b hb => by simp at hb; subst hb; exact hy) l [] hl (by simp; omega)]
  simp [bindL]

end Go.Proofs.Ytdofnoeiogjpjaa

namespace Go.Proofs.Ytdofnoeiogjpjaa
open Go Go.Eng
attribute [local irreducible] V VO VQ VY Quiet QR SpecP SpecO MSpec Rng PostP PostO PostG
/-! ### unification, by hand: the two programs' steps -/
/-- What the program answers, and what the reference answers, where r comes out. -/
def resI : Option (List TBinding) → Bool × List TBinding
  | none => (false, [])
  | some l => (true, l)
def ResS : Option (List TBinding) → List TBinding × Bool → Prop
  | none, p => p.2 = false
  | some l, p => p = (l, true)
theorem bind_gives {V : List (List UInt8)} (hV : V.length ≤ 4) {l : List TBinding} (hl : Inv V l) {a b : TType} (ha : Good V a) (hb : Good V b) {v : List UInt8} {y : TType} (hy : tnd y ≤ 4000) (hok : tok y) (hv : v ∈ V ∧ v ∉ dom l) (hyv : ∀ w ∈ tvs y, w ∈ V ∧ w ∉ dom l) (hn : v ∉ tvs y)
    (hab : apT [⟨v, y⟩] (apT l a) = apT [⟨v, y⟩] (apT l b)) : Inv V (bindL l v y) ∧ (bindL l v y = l ∨ l.length < (bindL l v y).length) ∧ (∀ t, apT (bindL l v y) (apT l t) = apT (bindL l v y) t) ∧ apT (bindL l v y) a = apT (bindL l v y) b := by
  refine ⟨hl.bind hv hyv hn hy hok, .inr (by simp [bindL]), fun t => ?_, ?_⟩
  · rw [apT_bind, apT_bind, hl.idem]
  · rw [apT_bind, apT_bind]; exact hab
theorem ap_var {v : List UInt8} {y x : TType} (hk : x.kind = 1) (hv : x.name = v) : apT [⟨v, y⟩] x = y := by
  obtain ⟨k, n, ts⟩ := x
  simp only at hk hv
  subst hk; subst hv
  simp [apT, lkp, cnd_true]
theorem ap_no {v : List UInt8} {y : TType} (hn : v ∉ tvs y) : apT [⟨v, y⟩] y = y := apT_out y (fun w hw hd => by
  simp only [dom, List.map_cons, List.map_nil, List.mem_singleton] at hd
  subst hd
  exact hn hw)
theorem var_in {x : TType} (hk : x.kind = 1) : x.name ∈ tvs x := by
  obtain ⟨k, n, ts⟩ := x
  simp only at hk
  subst hk
  simp [tvs]
theorem apTs_args {l l' : List TBinding} {x y : TType} (hk : x.kind = y.kind) (hn : x.name = y.name) (h1 : x.kind ≠ 1) (h : apTs l' x.args = apTs l' y.args) : apT l' x = apT l' y := by
  obtain ⟨k, n, ts⟩ := x
  obtain ⟨k', n', ts'⟩ := y
  simp only at hk hn h1 h
  subst hk; subst hn
  simp only [apT, beq_false_of_ne h1, cnd_false, h]
theorem tall_mem {ts : List TType} (h : tall ts) : ∀ t ∈ ts, tok t := tall_iff.1 h
theorem args_good {V : List (List UInt8)} {x : TType} (hs : tnd x ≤ 4000) (ho : tok x) (hv : ∀ v ∈ tvs x, v ∈ V) : (∀ t ∈ x.args, Good V t) ∧ tnds x.args + 1 = tnd x ∧ (∀ v ∈ tvss x.args, v ∈ tvs x) := by
  obtain ⟨k, n, ts⟩ := x
  simp only [tok] at ho
  refine ⟨fun t ht => ⟨fun v h => hv v ?_, ?_, tall_mem ho.2 t ht⟩, by simp only [tnd]; omega, fun v h => by simp [tvs, h]⟩
  · simp only [tvs, List.mem_append]
    exact .inr (tvss_mem.2 ⟨t, ht, h⟩)
  · have : tnd t ≤ tnds ts := tnd_mem ht
    simp only [tnd] at hs
    omega
/-- What is asked of the deeper calls. -/
def Deep (V : List (List UInt8)) (n : Nat) : Prop := ∀ (l : List TBinding) (as_ bs : List TType), Inv V l → (∀ t ∈ as_, Good V t) → (∀ t ∈ bs, Good V t) → as_.length = bs.length → (4 - l.length) * 4001 + tnds (apTs l as_) < n →
  ∃ r p, m_iUnify n l as_ bs = some (resI r) ∧ m_sAll (2 * n) as_ bs l = some p ∧ ResS r p ∧ ∀ l', r = some l' → Post V l l' as_ bs
theorem wsum {x y : TType} (hx : tnd x ≤ 1024000000000000000) (hy : tnd y ≤ 1024000000000000000) : IntKind.i64.wrap (tsz x + tsz y) = tnd x + tnd y := by
  rw [tsz_big x (by omega), tsz_big y (by omega), wrap_sm (by omega) (by omega)]
/-- One pair. -/
theorem step {V : List (List UInt8)} (hV : V.length ≤ 4) (n : Nat) (hD : Deep V n) (l : List TBinding) (a b : TType) (xs bs : List TType) (k : Nat) (hl : Inv V l) (ha : Good V a) (hb : Good V b) (hk : bs[k]? = some b)
    (hm : (4 - l.length) * 4001 + tnd (apT l a) ≤ n ∨ (4 - l.length) * 4001 + 4000 < n) :
    ∃ r p, (∀ l', r = some l' → b_iUnify_l1 (m_iUnify n) bs (a :: xs) k l = b_iUnify_l1 (m_iUnify n) bs xs (k + 1) l') ∧ (r = none → b_iUnify_l1 (m_iUnify n) bs (a :: xs) k l = some (false, [])) ∧
      m_sUnify (2 * n + 1) a b l = some p ∧ ResS r p ∧ ∀ l', r = some l' → Inv V l' ∧ (l' = l ∨ l.length < l'.length) ∧ (∀ t, apT l' (apT l t) = apT l' t) ∧ apT l' a = apT l' b := by
  have hbk : bok l := hl.ok
  have hx4 := hl.big hV ha.sz
  have hy4 := hl.big hV hb.sz
  have hxv := hl.vars ha
  have hyv := hl.vars hb
  have hxo := apT_tok hbk a ha.ok
  have hyo := apT_tok hbk b hb.ok
  have hll := hl.len hV
  have hix := hl.idem a
  have hiy := hl.idem b
  have hw := wsum hx4 hy4
  generalize hI : b_iUnify_l1 (m_iUnify n) bs (a :: xs) k l = rI
  rw [b_iUnify_l1.eq_2, at_nat, hk] at hI
  simp only [bnd, lt_] at hI
  rw [gd_eq ⟨hbk, ha.ok⟩, gd_eq ⟨hbk, hb.ok⟩] at hI
  generalize hS : m_sUnify (2 * n + 1) a b l = rS
  rw [m_sUnify.eq_2] at hS
  unfold b_sUnify at hS
  simp only [lt_] at hS
  rw [gd_eq ⟨hbk, ha.ok⟩, gd_eq ⟨hbk, hb.ok⟩] at hS
  subst hI
  subst hS
  rw [hw]
  have hxlk : ∀ v ∈ tvs (apT l a), v ∈ V ∧ v ∉ dom l := hxv
  generalize hX : apT l a = x at *
  generalize hY : apT l b = y at *
  cases ht : teq x y with
  | true =>
    have e := (teq_iff x y).1 ht
    simp only [cnd_true]
    refine ⟨some l, (l, true), fun l' h => (by cases h; rfl), fun h => (by cases h), rfl, rfl, fun l' h => ?_⟩
    cases h
    exact ⟨hl, .inl rfl, hl.idem, by rw [hX, hY, e]⟩
  | false =>
    simp only [cnd_false]
    by_cases hs : tnd x + tnd y ≤ 4000
    · have hd : decide (((tnd x : Int) + (tnd y : Int)) > 4000) = false := decide_eq_false (by omega)
      rw [hd]
      simp only [cnd_false]
      by_cases kx : x.kind = 1
      · have e1 : (x.kind == 1) = true := by simp [kx]
        have e2 : (x.kind != 1) = false := by simp [kx]
        simp only [e1, e2, cnd_true, cnd_false]
        rw [iOcc (by omega), sOcc (by omega), sBound_eq l x.name y hbk hyo hll]
        by_cases ho : x.name ∈ tvs y
        · have : decide (x.name ∈ tvs y) = true := decide_eq_true ho
          rw [this]
          simp only [cnd_true, bnd]
          exact ⟨none, _, fun l' h => (by cases h), fun _ => (by trivial), rfl, rfl, fun l' h => (by cases h)⟩
        · have : decide (x.name ∈ tvs y) = false := decide_eq_false ho
          rw [this]
          simp only [cnd_false, bnd]
          rw [l3_eq x y _ (fun c hc => by simp at hc; subst hc; exact hyo) l.length 0 l (by simp) (fun c hc => hbk c (by simpa using hc))]
          have e3 : List.take 0 l ++ List.map (fun b => (⟨b.var_, apT [⟨x.name, y⟩] b.type_⟩ : TBinding)) (List.drop 0 l) ++ [⟨x.name, y⟩] = bindL l x.name y := by simp [bindL]
          rw [gd_eq (by simp; omega), e3]
          refine ⟨some (bindL l x.name y), _, fun l' h => (by cases h; rfl), fun h => (by cases h), rfl, rfl, fun l' h => ?_⟩
          cases h
          exact bind_gives hV hl ha hb (by omega) hyo (hxlk _ (var_in kx)) hyv ho (by rw [hX, hY, ap_var kx rfl, ap_no ho])
      · have e1 : (x.kind == 1) = false := beq_false_of_ne kx
        have e2 : (x.kind != 1) = true := by simp [kx]
        simp only [e1, e2, cnd_true, cnd_false]
        by_cases ky : y.kind = 1
        · have e4 : (y.kind == 1) = true := by simp [ky]
          simp only [e4, cnd_true]
          rw [iOcc (by omega), sOcc (by omega), sBound_eq l y.name x hbk hxo hll]
          by_cases ho : y.name ∈ tvs x
          · have : decide (y.name ∈ tvs x) = true := decide_eq_true ho
            rw [this]
            simp only [cnd_true, bnd]
            exact ⟨none, _, fun l' h => (by cases h), fun _ => (by trivial), rfl, rfl, fun l' h => (by cases h)⟩
          · have : decide (y.name ∈ tvs x) = false := decide_eq_false ho
            rw [this]
            simp only [cnd_false, bnd]
            rw [l2_eq x y _ (fun c hc => by simp at hc; subst hc; exact hxo) l.length 0 l (by simp) (fun c hc => hbk c (by simpa using hc))]
            have e3 : List.take 0 l ++ List.map (fun b => (⟨b.var_, apT [⟨y.name, x⟩] b.type_⟩ : TBinding)) (List.drop 0 l) ++ [⟨y.name, x⟩] = bindL l y.name x := by simp [bindL]
            rw [gd_eq (by simp; omega), e3]
            refine ⟨some (bindL l y.name x), _, fun l' h => (by cases h; rfl), fun h => (by cases h), rfl, rfl, fun l' h => ?_⟩
            cases h
            exact bind_gives hV hl ha hb (by omega) hxo (hyv _ (var_in ky)) hxv ho (by rw [hX, hY, ap_var ky rfl, ap_no ho])
        · have e4 : (y.kind == 1) = false := beq_false_of_ne ky
          simp only [e4, cnd_false]
          cases hc : (cnd (x.kind != y.kind) true (cnd (!(x.name == y.name)) true ((x.args.length : Int) != (y.args.length : Int)))) with
          | true =>
            simp only [cnd_true]
            exact ⟨none, _, fun l' h => (by cases h), fun _ => (by trivial), rfl, rfl, fun l' h => (by cases h)⟩
          | false =>
            simp only [cnd_false]
            have f1 : x.kind = y.kind := by
              cases h : (x.kind != y.kind) with
              | true => rw [h] at hc; simp [cnd_true] at hc
              | false => simpa using h
            have f2 : x.name = y.name := by
              rw [show (x.kind != y.kind) = false by simp [f1]] at hc
              simp only [cnd_false] at hc
              cases h : (x.name == y.name) with
              | true => exact eq_of_beq h
              | false => rw [h] at hc; simp [cnd_true] at hc
            have f3 : x.args.length = y.args.length := by
              rw [show (x.kind != y.kind) = false by simp [f1], show (x.name == y.name) = true by simp [f2]] at hc
              simp only [cnd_false, Bool.not_true] at hc
              have : ((x.args.length : Int)) = y.args.length := by simpa using hc
              omega
            obtain ⟨g1, g2, g3⟩ := args_good (V := V) (by omega) hxo (fun v hv => (hxv v hv).1)
            obtain ⟨g4, g5, g6⟩ := args_good (V := V) (by omega) hyo (fun v hv => (hyv v hv).1)
            have hxa : apTs l x.args = x.args := apTs_out _ (fun v hv => (hxv v (g3 v hv)).2)
            obtain ⟨r, p, q1, q2, q3, q4⟩ := hD l x.args y.args hl g1 g4 f3 (by rw [hxa]; omega)
            rw [q1, q2]
            simp only [bnd]
            cases r with
            | none =>
              simp only [resI, Bool.not_false, cnd_true]
              exact ⟨none, _, fun l' h => (by cases h), fun _ => (by trivial), rfl, q3, fun l' h => (by cases h)⟩
            | some l2 =>
              simp only [resI, Bool.not_true, cnd_false]
              refine ⟨some l2, _, fun l' h => (by cases h; rfl), fun h => (by cases h), rfl, ?_, fun l' h => ?_⟩
              · have : p = (l2, true) := q3
                subst this
                rfl
              · cases h
                obtain ⟨w1, w2, w3, w4⟩ := q4 l2 rfl
                refine ⟨w1, w2, w3, ?_⟩
                rw [← w3 a, ← w3 b, hX, hY]
                exact apTs_args (l := l) f1 f2 kx w4
    · have hd : decide (((tnd x : Int) + (tnd y : Int)) > 4000) = true := decide_eq_true (by omega)
      rw [hd]
      simp only [cnd_true]
      exact ⟨none, _, fun l' h => (by cases h), fun _ => (by trivial), rfl, rfl, fun l' h => (by cases h)⟩
/-- A row of pairs. -/
theorem row {V : List (List UInt8)} (hV : V.length ≤ 4) (n : Nat) (hD : Deep V n) (bs : List TType) (hbs : ∀ t ∈ bs, Good V t) (xs : List TType) : ∀ (k : Nat) (l : List TBinding), Inv V l → (∀ t ∈ xs, Good V t) → bs.length = k + xs.length → ((4 - l.length) * 4001 + tnds (apTs l xs) ≤ n ∨ (4 - l.length) * 4001 + 4000 < n) →
    ∃ r p, b_iUnify_l1 (m_iUnify n) bs xs k l = some (resI r) ∧ b_sAll_l1 (m_sUnify (2 * n + 1)) bs xs k l = some p ∧ ResS r p ∧ ∀ l', r = some l' → Post V l l' xs (bs.drop k) := by
  induction xs with
  | nil =>
    intro k l hl _ h _
    refine ⟨some l, (l, true), rfl, rfl, rfl, fun l' h' => ?_⟩
    cases h'
    exact ⟨hl, .inl rfl, hl.idem, by rw [List.drop_of_length_le (by simp at h; omega)]⟩
  | cons a xs ih =>
    intro k l hl hx h hm
    simp only [List.length_cons] at h
    have hk : k < bs.length := by omega
    have hbk : bs[k]? = some bs[k] := List.getElem?_eq_getElem hk
    have ha : tnds (apTs l (a :: xs)) = tnd (apT l a) + tnds (apTs l xs) := rfl
    rw [ha] at hm
    obtain ⟨r, p, s1, s2, s3, s4, s5⟩ := step hV n hD l a bs[k] xs bs k hl (hx a (by simp)) (hbs _ (List.getElem_mem hk)) hbk (by omega)
    have sL : b_sAll_l1 (m_sUnify (2 * n + 1)) bs (a :: xs) k l = cnd (!p.2) (some (l, false)) (b_sAll_l1 (m_sUnify (2 * n + 1)) bs xs (k + 1) p.1) := by
      rw [b_sAll_l1.eq_2, at_nat, hbk]
      simp only [bnd]
      rw [s3]
    cases r with
    | none =>
      refine ⟨none, (l, false), s2 rfl, ?_, rfl, fun l' h => by cases h⟩
      rw [sL]
      have : p.2 = false := s4
      rw [this]
      rfl
    | some l1 =>
      have hp : p = (l1, true) := s4
      subst hp
      obtain ⟨w1, w2, w3, w4⟩ := s5 l1 rfl
      have hl1 := w1.len hV
      have hm2 : (4 - l1.length) * 4001 + tnds (apTs l1 xs) ≤ n ∨ (4 - l1.length) * 4001 + 4000 < n := by
        rcases w2 with rfl | w2
        · omega
        · right
          have : (4 - l1.length) * 4001 + 4001 ≤ (4 - l.length) * 4001 := by omega
          omega
      obtain ⟨r2, p2, z1, z2, z3, z4⟩ := ih (k + 1) l1 w1 (fun t ht => hx t (by simp [ht])) (by omega) hm2
      refine ⟨r2, p2, by rw [s1 l1 rfl]; exact z1, by rw [sL]; exact z2, z3, fun l' h' => ?_⟩
      obtain ⟨y1, y2, y3, y4⟩ := z4 l' h'
      refine ⟨y1, ?_, fun t => ?_, ?_⟩
      · rcases w2 with rfl | w2
        · exact y2
        · right
          rcases y2 with rfl | y2 <;> omega
      · rw [← y3 (apT l t), w3, y3]
      · rw [List.drop_eq_getElem_cons hk]
        simp only [apTs]
        rw [y4, ← y3 a, ← y3 bs[k], w4]
theorem deep {V : List (List UInt8)} (hV : V.length ≤ 4) : ∀ n, Deep V n
  | 0 => fun l as_ bs _ _ _ _ h => by omega
  | n + 1 => fun l as_ bs hl ha hb hlen hm => by
    obtain ⟨r, p, h1, h2, h3, h4⟩ := row hV n (deep hV n) bs hb as_ 0 l hl ha (by omega) (.inl (by omega))
    refine ⟨r, p, ?_, ?_, h3, fun l' h => by simpa using h4 l' h⟩
    · rw [m_iUnify.eq_2]
      exact h1
    · rw [show 2 * (n + 1) = (2 * n + 1) + 1 by omega, m_sAll.eq_2]
      exact h2

end Go.Proofs.Ytdofnoeiogjpjaa

