/- Un3. Written by a program of mine (aw.py). -/
import Derived.Test.YtgmlpaaklnkghaaGreatEng39
import Derived.Test.YtgmlpaaklnkghaaGreatUn1
set_option linter.unusedVariables false
set_option linter.unusedSimpArgs false
set_option linter.unusedSectionVars false
namespace Go.Proofs.YtgmlpaaklnkghaaGreat
open Go Go.Eng
attribute [local irreducible] V VO VQ VY Quiet QR SpecP SpecO Rng PostP PostO PostG
def b_ctv1 (v : List UInt8) (n : Int) (u : TType) : Int :=
lt_ ((cnd (u.kind == 1) ((u.name == v)) (false))) fun b1 =>
(cnd b1 (
(IntKind.i64.wrap (n + 1))) (
n))
set_option maxHeartbeats 4000000 in
theorem w_ctv1 (v : List UInt8) (n : Int) (u : TType) : Go.Eng.Spec Tryz.prog 115 [.d (eType u), .ptr 0 0, .ptr 1 0] [.box [.d (.s v)], .box [.d (.i .i64 n)]] (fun sv Lo => sv = .tup [] ∧ Lo = [.box [.d (.s v)], .box [.d (.i .i64 (b_ctv1 v n u))]]) := by
  obtain ⟨r, h⟩ : ∃ r, b_ctv1 v n u = r := ⟨_, rfl⟩
  rw [h]
  obtain ⟨u_0, u_1, u_2⟩ := u
  unfold b_ctv1 at h
  refine Spec_intro 2 Tryz.func115 rfl (by kernel_rfl) rfl rfl fun A _ => ?_
  refine goL ?_
  obtain ⟨b1, hb1, h⟩ := lt_x h
  refine VO_join ⟨[(2, .ptr 1 0), (12, .d (.b b1))], [.box [.d (.s v)], .box [.d (.i .i64 n)], .box [.d (.i .i64 u_0), .d (.s u_1), .d (.sl 3 (eTypes u_2))]], Tryz.f115.ntmps⟩ ?_ ?_
  · refine VO_case 7 (fun c2 => ?_) (fun c2 => ?_)
    · replace hb1 := cnd_t c2 hb1
      refine goL ?_
      cases hb1
      exact ⟨rfl, ⟨⟨rfl, rfl⟩, ⟨rfl, rfl⟩, trivial⟩, ⟨[], rfl⟩, rfl⟩
    · replace hb1 := cnd_f c2 hb1
      refine goL ?_
      cases hb1
      exact ⟨rfl, ⟨⟨rfl, rfl⟩, ⟨rfl, rfl⟩, trivial⟩, ⟨[], rfl⟩, rfl⟩
  refine goL ?_
  refine V_cb (fun c3 => ?_) (fun c3 => ?_)
  · replace h := cnd_t c3 h
    refine goL ?_
    refine VO_r (QR_ar) ?_
    refine goL ?_
    subst h
    exact N_rH [] [.box [.d (.s v)], .box [.d (.i .i64 (IntKind.i64.wrap (n + 1)))]] ⟨rfl, rfl⟩
  · replace h := cnd_f c3 h
    refine V_skip ?_
    show PostG _ _ _ _ _ _
    subst h
    exact N_rH [] [.box [.d (.s v)], .box [.d (.i .i64 n)]] ⟨rfl, rfl⟩
def b_eachCt_l1 (rec_eachCt : (List UInt8) → Int → TType → Option (Int)) (v : List UInt8) : List TType → Int → Option (Int)
  | [], y2 => (some y2)
  | x6 :: xs, y2 => bnd (rec_eachCt v y2 x6) fun x7 =>
b_eachCt_l1 rec_eachCt v xs x7
def b_eachCt (rec_eachCt : (List UInt8) → Int → TType → Option (Int)) (v : List UInt8) (n : Int) (u : TType) : Option (Int) :=
lt_ (b_ctv1 v n u) fun x1 =>
b_eachCt_l1 rec_eachCt v u.args x1
set_option maxHeartbeats 4000000 in
theorem w_eachCt {rec_eachCt : (List UInt8) → Int → TType → Option (Int)} (hrec_eachCt : ∀ (x0 : List UInt8) (x1 : Int) (x2 : TType) {r : Int}, rec_eachCt x0 x1 x2 = some r → Go.Eng.Spec Tryz.prog 114 [.d (eType x2), .fn 115 [.ptr 0 0, .ptr 1 0]] [.box [.d (.s x0)], .box [.d (.i .i64 x1)]] (fun sv Lo => sv = .tup [] ∧ Lo = [.box [.d (.s x0)], .box [.d (.i .i64 r)]])) (v : List UInt8) (n : Int) (u : TType) {r : Int} (h : b_eachCt rec_eachCt v n u = some r) : Go.Eng.Spec Tryz.prog 114 [.d (eType u), .fn 115 [.ptr 0 0, .ptr 1 0]] [.box [.d (.s v)], .box [.d (.i .i64 n)]] (fun sv Lo => sv = .tup [] ∧ Lo = [.box [.d (.s v)], .box [.d (.i .i64 r)]]) := by
  obtain ⟨u_0, u_1, u_2⟩ := u
  unfold b_eachCt at h
  refine Spec_intro 2 Tryz.func114 rfl (by kernel_rfl) rfl rfl fun A _ => ?_
  refine goL ?_
  obtain ⟨x1, hx1, h⟩ := lt_x h
  have sx1 := w_ctv1 v n (TType.mk u_0 u_1 u_2)
  rw [hx1] at sx1
  refine VO_cG [0, 1] (sx1) ?_
  rintro _ _ ⟨rfl, rfl⟩
  show VO _ _ _ _ ⟨(_, .tup []) :: _, [.box [.d (.s v)], .box [.d (.i .i64 x1)], .box [.d (.i .i64 u_0), .d (.s u_1), .d (.sl 3 (eTypes u_2))]], _⟩ _
  refine goL ?_
  refine V_block ?_
  show V _ _ _ _ _
  refine V_bd 10 (fun z4 => ?_)
  refine V_loop2 (fun (y3 : Nat) (y2 : Int) => ⟨[(1, .fn 115 [.ptr 0 0, .ptr 1 0]), (10, .d (.sl 3 (eTypes u_2))), (11, .d (.i .i64 (u_2.length : Int))), (12, .d (.i .i64 (y3 : Int)))], [.box [.d (.s v)], .box [.d (.i .i64 y2)], .box [.d (.i .i64 u_0), .d (.s u_1), .d (.sl 3 (eTypes u_2))]], Tryz.f114.ntmps⟩) (fun y3 y2 => b_eachCt_l1 rec_eachCt v (u_2.drop y3) y2 = some r) (fun y3 y2 => u_2.length - y3) 0 x1 ⟨rfl, ⟨⟨rfl, rfl⟩, ⟨rfl, rfl⟩, ⟨rfl, rfl⟩, ⟨rfl, rfl⟩, trivial⟩, ⟨[], rfl⟩, rfl⟩ h ?_
  rintro y3 y2 h
  refine goL ?_
  refine V_seq (V_cb (fun c5 => ?_) (fun c5 => ?_))
  · have hky32 := kltN c5
    obtain ⟨x6, hx6, hdx6⟩ := drop_at hky32
    rw [hdx6, b_eachCt_l1.eq_2] at h
    obtain ⟨x6_0, x6_1, x6_2⟩ := x6
    refine V_skip ?_
    show V _ _ _ _ _
    refine V_seq (V_block ?_)
    refine goL ?_
    refine VO_r (QR_ixn y3 (gType hx6)) ?_
    refine goL ?_
    obtain ⟨x7, hx7, h⟩ := bnd_s h
    refine VO_cG [0, 1] (hrec_eachCt v y2 (TType.mk x6_0 x6_1 x6_2) hx7) ?_
    rintro _ _ ⟨rfl, rfl⟩
    show VO _ _ _ _ ⟨(_, .tup []) :: _, [.box [.d (.s v)], .box [.d (.i .i64 x7)], .box [.d (.i .i64 u_0), .d (.s u_1), .d (.sl 3 (eTypes u_2))], .box [.d (.i .i64 x6_0), .d (.s x6_1), .d (.sl 3 (eTypes x6_2))]], _⟩ _
    refine goL ?_
    refine VO_r (QR_inc y3 (by omega)) ?_
    refine goL ?_
    exact ⟨(y3 + 1), x7, h, by omega, ⟨rfl, ⟨⟨rfl, rfl⟩, ⟨rfl, rfl⟩, ⟨rfl, rfl⟩, ⟨rfl, rfl⟩, trivial⟩, ⟨_, rfl⟩, rfl⟩⟩
  · have hky32 := kgeN c5
    rw [drop_end hky32, b_eachCt_l1.eq_1] at h
    refine V_exit ?_
    show PostG _ _ _ _ _ _
    replace h := Option.some.inj h
    subst h
    exact N_rH [] [.box [.d (.s v)], .box [.d (.i .i64 y2)]] ⟨rfl, rfl⟩
def m_eachCt : Nat → (List UInt8) → Int → TType → Option (Int)
  | 0, _, _, _ => none
  | n + 1, x0, x1, x2 => b_eachCt (m_eachCt n) x0 x1 x2
theorem s_eachCt : ∀ (n : Nat) (x0 : List UInt8) (x1 : Int) (x2 : TType) {r : Int}, m_eachCt n x0 x1 x2 = some r → Go.Eng.Spec Tryz.prog 114 [.d (eType x2), .fn 115 [.ptr 0 0, .ptr 1 0]] [.box [.d (.s x0)], .box [.d (.i .i64 x1)]] (fun sv Lo => sv = .tup [] ∧ Lo = [.box [.d (.s x0)], .box [.d (.i .i64 r)]]) := by
  intro n
  induction n with
  | zero => intro x0 x1 x2 r h; cases h
  | succ n ih => intro x0 x1 x2 r h; exact w_eachCt ih x0 x1 x2 h
def b_sCount_l1 (rec_sCount : TType → (List UInt8) → Option (Int)) (a1 : List UInt8) : List TType → Int → Option (Int)
  | [], y4 => (some y4)
  | x8 :: xs, y4 => bnd (rec_sCount x8 a1) fun x9 =>
b_sCount_l1 rec_sCount a1 xs (IntKind.i64.wrap (y4 + x9))
def b_sCount_l2 (rec_sCount : TType → (List UInt8) → Option (Int)) (a1 : List UInt8) : List TType → Int → Option (Int)
  | [], y10 => (some y10)
  | x14 :: xs, y10 => bnd (rec_sCount x14 a1) fun x15 =>
b_sCount_l2 rec_sCount a1 xs (IntKind.i64.wrap (y10 + x15))
def b_sCount (rec_sCount : TType → (List UInt8) → Option (Int)) (a0 : TType) (a1 : List UInt8) : Option (Int) :=
lt_ ((cnd (a0.kind == 1) ((a0.name == a1)) (false))) fun b1 =>
(cnd b1 (
b_sCount_l1 rec_sCount a1 a0.args 1) (
b_sCount_l2 rec_sCount a1 a0.args 0))
set_option maxHeartbeats 4000000 in
theorem w_sCount {rec_sCount : TType → (List UInt8) → Option (Int)} (hrec_sCount : ∀ (x0 : TType) (x1 : List UInt8) {r : Int}, rec_sCount x0 x1 = some r → SpecP Tryz.prog 117 [.d (eType x0), .d (.s x1)] [.i .i64 r]) (a0 : TType) (a1 : List UInt8) {r : Int} (h : b_sCount rec_sCount a0 a1 = some r) : SpecP Tryz.prog 117 [.d (eType a0), .d (.s a1)] [.i .i64 r] := by
  obtain ⟨a0_0, a0_1, a0_2⟩ := a0
  unfold b_sCount at h
  refine SpecP_intro Tryz.func117 rfl (by kernel_rfl) rfl fun A _ => ?_
  refine goL ?_
  obtain ⟨b1, hb1, h⟩ := lt_x h
  refine VO_join ⟨[(1, .d (.s a1)), (2, .ptr 0 0), (5, .d (.i .i64 0)), (15, .d (.b b1))], [.box [.d (.i .i64 a0_0), .d (.s a0_1), .d (.sl 3 (eTypes a0_2))]], Tryz.f117.ntmps⟩ ?_ ?_
  · refine VO_case 10 (fun c2 => ?_) (fun c2 => ?_)
    · replace hb1 := cnd_t c2 hb1
      refine goL ?_
      cases hb1
      exact ⟨rfl, ⟨⟨rfl, rfl⟩, ⟨rfl, rfl⟩, ⟨rfl, rfl⟩, ⟨rfl, rfl⟩, trivial⟩, ⟨[], rfl⟩, rfl⟩
    · replace hb1 := cnd_f c2 hb1
      refine goL ?_
      cases hb1
      exact ⟨rfl, ⟨⟨rfl, rfl⟩, ⟨rfl, rfl⟩, ⟨rfl, rfl⟩, ⟨rfl, rfl⟩, trivial⟩, ⟨[], rfl⟩, rfl⟩
  refine goL ?_
  refine V_cb (fun c3 => ?_) (fun c3 => ?_)
  · replace h := cnd_t c3 h
    refine goL ?_
    refine V_block ?_
    show V _ _ _ _ _
    refine V_bdc 0 2 (fun z6 => ?_)
    refine V_loop2 (fun (y5 : Nat) (y4 : Int) => ⟨[(1, .d (.s a1)), (2, .ptr 0 0), (5, .d (.i .i64 y4)), (6, .d (.i .i64 (y5 : Int)))], [.box [.d (.i .i64 a0_0), .d (.s a0_1), .d (.sl 3 (eTypes a0_2))]], Tryz.f117.ntmps⟩) (fun y5 y4 => b_sCount_l1 rec_sCount a1 (a0_2.drop y5) y4 = some r) (fun y5 y4 => a0_2.length - y5) 0 1 ⟨rfl, ⟨⟨rfl, rfl⟩, ⟨rfl, rfl⟩, ⟨rfl, rfl⟩, ⟨rfl, rfl⟩, trivial⟩, ⟨[], rfl⟩, rfl⟩ h ?_
    rintro y5 y4 h
    refine goL ?_
    refine V_cb (fun c7 => ?_) (fun c7 => ?_)
    · have hky52 := kltN c7
      obtain ⟨x8, hx8, hdx8⟩ := drop_at hky52
      rw [hdx8, b_sCount_l1.eq_2] at h
      obtain ⟨x8_0, x8_1, x8_2⟩ := x8
      refine V_skip ?_
      show V _ _ _ _ _
      refine V_seq (V_block ?_)
      refine goL ?_
      refine VO_r (QR_ixn y5 (gType hx8)) ?_
      refine goL ?_
      obtain ⟨x9, hx9, h⟩ := bnd_s h
      refine VO_r (QR_call (hrec_sCount (TType.mk x8_0 x8_1 x8_2) a1 hx9)) ?_
      refine VO_r (QR_ar) ?_
      refine goL ?_
      refine VO_r (QR_inc y5 (by omega)) ?_
      refine goL ?_
      exact ⟨(y5 + 1), (IntKind.i64.wrap (y4 + x9)), h, by omega, ⟨rfl, ⟨⟨rfl, rfl⟩, ⟨rfl, rfl⟩, ⟨rfl, rfl⟩, ⟨rfl, rfl⟩, trivial⟩, ⟨_, rfl⟩, rfl⟩⟩
    · have hky52 := kgeN c7
      rw [drop_end hky52, b_sCount_l1.eq_1] at h
      refine V_exit ?_
      show V _ _ _ _ _
      refine goL ?_
      refine V_ret ?_
      replace h := Option.some.inj h
      subst h
      exact R_rP
  · replace h := cnd_f c3 h
    refine V_skip ?_
    show V _ _ _ _ _
    refine goL ?_
    refine V_block ?_
    show V _ _ _ _ _
    refine V_bdc 0 2 (fun z12 => ?_)
    refine V_loop2 (fun (y11 : Nat) (y10 : Int) => ⟨[(1, .d (.s a1)), (2, .ptr 0 0), (5, .d (.i .i64 y10)), (6, .d (.i .i64 (y11 : Int)))], [.box [.d (.i .i64 a0_0), .d (.s a0_1), .d (.sl 3 (eTypes a0_2))]], Tryz.f117.ntmps⟩) (fun y11 y10 => b_sCount_l2 rec_sCount a1 (a0_2.drop y11) y10 = some r) (fun y11 y10 => a0_2.length - y11) 0 0 ⟨rfl, ⟨⟨rfl, rfl⟩, ⟨rfl, rfl⟩, ⟨rfl, rfl⟩, ⟨rfl, rfl⟩, trivial⟩, ⟨[], rfl⟩, rfl⟩ h ?_
    rintro y11 y10 h
    refine goL ?_
    refine V_cb (fun c13 => ?_) (fun c13 => ?_)
    · have hky112 := kltN c13
      obtain ⟨x14, hx14, hdx14⟩ := drop_at hky112
      rw [hdx14, b_sCount_l2.eq_2] at h
      obtain ⟨x14_0, x14_1, x14_2⟩ := x14
      refine V_skip ?_
      show V _ _ _ _ _
      refine V_seq (V_block ?_)
      refine goL ?_
      refine VO_r (QR_ixn y11 (gType hx14)) ?_
      refine goL ?_
      obtain ⟨x15, hx15, h⟩ := bnd_s h
      refine VO_r (QR_call (hrec_sCount (TType.mk x14_0 x14_1 x14_2) a1 hx15)) ?_
      refine VO_r (QR_ar) ?_
      refine goL ?_
      refine VO_r (QR_inc y11 (by omega)) ?_
      refine goL ?_
      exact ⟨(y11 + 1), (IntKind.i64.wrap (y10 + x15)), h, by omega, ⟨rfl, ⟨⟨rfl, rfl⟩, ⟨rfl, rfl⟩, ⟨rfl, rfl⟩, ⟨rfl, rfl⟩, trivial⟩, ⟨_, rfl⟩, rfl⟩⟩
    · have hky112 := kgeN c13
      rw [drop_end hky112, b_sCount_l2.eq_1] at h
      refine V_exit ?_
      show V _ _ _ _ _
      refine goL ?_
      refine V_ret ?_
      replace h := Option.some.inj h
      subst h
      exact R_rP
def m_sCount : Nat → TType → (List UInt8) → Option (Int)
  | 0, _, _ => none
  | n + 1, x0, x1 => b_sCount (m_sCount n) x0 x1
theorem s_sCount : ∀ (n : Nat) (x0 : TType) (x1 : List UInt8) {r : Int}, m_sCount n x0 x1 = some r → SpecP Tryz.prog 117 [.d (eType x0), .d (.s x1)] [.i .i64 r] := by
  intro n
  induction n with
  | zero => intro x0 x1 r h; cases h
  | succ n ih => intro x0 x1 r h; exact w_sCount ih x0 x1 h
/-! ### counting a variable, by hand -/
mutual
def ctc (v : List UInt8) (n : Int) : TType → Int
  | ⟨k, s, ts⟩ => ctcs v (cnd (cnd (k == 1) (s == v) false) (IntKind.i64.wrap (n + 1)) n) ts
def ctcs (v : List UInt8) (n : Int) : List TType → Int
  | [] => n
  | a :: ts => ctcs v (ctc v n a) ts
end
mutual
def ctn : TType → List UInt8 → Int
  | ⟨k, s, ts⟩, v => ctns ts v (cnd (cnd (k == 1) (s == v) false) 1 0)
def ctns : List TType → List UInt8 → Int → Int
  | [], _, y => y
  | a :: ts, v, y => ctns ts v (IntKind.i64.wrap (y + ctn a v))
end
theorem eachCt_l1_eq {rec : List UInt8 → Int → TType → Option Int} (v : List UInt8) : ∀ (xs : List TType) (y : Int), (∀ x ∈ xs, ∀ n, rec v n x = some (ctc v n x)) → b_eachCt_l1 rec v xs y = some (ctcs v y xs)
  | [], y, _ => rfl
  | x :: xs, y, h => by
    simp only [b_eachCt_l1, h x (by simp), bnd, ctcs]
    exact eachCt_l1_eq v xs _ (fun z hz => h z (by simp [hz]))
theorem eachCt_eq (v : List UInt8) : ∀ (m : Nat) (n : Int) (t : TType), tnd t ≤ m → m_eachCt m v n t = some (ctc v n t)
  | 0, n, t, h => by have := tnd_pos t; omega
  | m + 1, n, ⟨k, s, ts⟩, h => by
    simp only [tnd] at h
    simp only [m_eachCt, b_eachCt, lt_, ctc]
    rw [eachCt_l1_eq v ts _ (fun x hx n => eachCt_eq v m n x (by have := tnd_mem hx; omega))]
    rfl
theorem sCount_l1_eq {rec : TType → List UInt8 → Option Int} (v : List UInt8) : ∀ (xs : List TType) (y : Int), (∀ x ∈ xs, rec x v = some (ctn x v)) → b_sCount_l1 rec v xs y = some (ctns xs v y) ∧ b_sCount_l2 rec v xs y = some (ctns xs v y)
  | [], y, _ => ⟨rfl, rfl⟩
  | x :: xs, y, h => by
    simp only [b_sCount_l1, b_sCount_l2, h x (by simp), bnd, ctns]
    exact sCount_l1_eq v xs _ (fun z hz => h z (by simp [hz]))
theorem sCount_eq : ∀ (m : Nat) (t : TType) (v : List UInt8), tnd t ≤ m → m_sCount m t v = some (ctn t v)
  | 0, t, v, h => by have := tnd_pos t; omega
  | m + 1, ⟨k, s, ts⟩, v, h => by
    simp only [tnd] at h
    have h1 := fun y => sCount_l1_eq (rec := m_sCount m) v ts y (fun x hx => sCount_eq m x v (by have := tnd_mem hx; omega))
    simp only [m_sCount, b_sCount, lt_, ctn]
    rw [(h1 1).1, (h1 0).2]
    cases (cnd (k == 1) (s == v) false) <;> rfl
theorem t_eachCt (x0 : List UInt8) (x1 : Int) (x2 : TType) : Go.Eng.Spec Tryz.prog 114 [.d (eType x2), .fn 115 [.ptr 0 0, .ptr 1 0]] [.box [.d (.s x0)], .box [.d (.i .i64 x1)]] (fun sv Lo => sv = .tup [] ∧ Lo = [.box [.d (.s x0)], .box [.d (.i .i64 (ctc x0 x1 x2))]]) := s_eachCt (tnd x2) x0 x1 x2 (eachCt_eq _ _ _ _ (Nat.le_refl _))
theorem t_sCount (x0 : TType) (x1 : List UInt8) : SpecP Tryz.prog 117 [.d (eType x0), .d (.s x1)] [.i .i64 (ctn x0 x1)] := s_sCount (tnd x0) x0 x1 (sCount_eq _ _ _ (Nat.le_refl _))
def b_iCount (a0 : TType) (a1 : List UInt8) : Int :=
lt_ (ctc a1 0 a0) fun x1 =>
x1
set_option maxHeartbeats 4000000 in
theorem w_iCount (a0 : TType) (a1 : List UInt8) : SpecP Tryz.prog 102 [.d (eType a0), .d (.s a1)] [.i .i64 (b_iCount a0 a1)] := by
  obtain ⟨r, h⟩ : ∃ r, b_iCount a0 a1 = r := ⟨_, rfl⟩
  rw [h]
  obtain ⟨a0_0, a0_1, a0_2⟩ := a0
  unfold b_iCount at h
  refine SpecP_intro Tryz.func102 rfl (by kernel_rfl) rfl fun A _ => ?_
  refine goL ?_
  refine VO_r (QR_fn) ?_
  obtain ⟨x1, hx1, h⟩ := lt_x h
  have sx1 := t_eachCt a1 0 (TType.mk a0_0 a0_1 a0_2)
  rw [hx1] at sx1
  refine VO_cG [1, 2] (sx1) ?_
  rintro _ _ ⟨rfl, rfl⟩
  show VO _ _ _ _ ⟨(_, .tup []) :: _, [.box [.d (.i .i64 a0_0), .d (.s a0_1), .d (.sl 3 (eTypes a0_2))], .box [.d (.s a1)], .box [.d (.i .i64 x1)]], _⟩ _
  refine goL ?_
  refine V_ret ?_
  subst h
  exact R_rP
def b_iOccurs (a0 : List UInt8) (a1 : TType) : Bool :=
(decide ((b_iCount a1 a0) > 0))
set_option maxHeartbeats 4000000 in
theorem w_iOccurs (a0 : List UInt8) (a1 : TType) : SpecP Tryz.prog 83 [.d (.s a0), .d (eType a1)] [.b (b_iOccurs a0 a1)] := by
  obtain ⟨r, h⟩ : ∃ r, b_iOccurs a0 a1 = r := ⟨_, rfl⟩
  rw [h]
  obtain ⟨a1_0, a1_1, a1_2⟩ := a1
  unfold b_iOccurs at h
  refine SpecP_intro Tryz.func83 rfl (by kernel_rfl) rfl fun A _ => ?_
  refine goL ?_
  refine VO_r (QR_call (w_iCount (TType.mk a1_0 a1_1 a1_2) a0)) ?_
  refine goL ?_
  refine V_ret ?_
  subst h
  exact R_rP
def b_sOccurs (a0 : List UInt8) (a1 : TType) : Bool :=
(decide ((ctn a1 a0) > 0))
set_option maxHeartbeats 4000000 in
theorem w_sOccurs (a0 : List UInt8) (a1 : TType) : SpecP Tryz.prog 106 [.d (.s a0), .d (eType a1)] [.b (b_sOccurs a0 a1)] := by
  obtain ⟨r, h⟩ : ∃ r, b_sOccurs a0 a1 = r := ⟨_, rfl⟩
  rw [h]
  obtain ⟨a1_0, a1_1, a1_2⟩ := a1
  unfold b_sOccurs at h
  refine SpecP_intro Tryz.func106 rfl (by kernel_rfl) rfl fun A _ => ?_
  refine goL ?_
  refine VO_r (QR_call (t_sCount (TType.mk a1_0 a1_1 a1_2) a0)) ?_
  refine goL ?_
  refine V_ret ?_
  subst h
  exact R_rP
def b_sBound_l1 (a1 : List UInt8) (a2 : TType) : List TBinding → (List TBinding) → Option (List TBinding)
  | [], y1 => gd (tok a2) (lt_ (idT a2) fun x11 =>
gd (y1.length + [(TBinding.mk a1 x11)].length ≤ 4294967296) (
(some (y1 ++ [(TBinding.mk a1 x11)]))))
  | x6 :: xs, y1 => gd (bok [(TBinding.mk a1 a2)] ∧ tok x6.type_) (lt_ (apT [(TBinding.mk a1 a2)] x6.type_) fun x8 =>
gd (y1.length + [(TBinding.mk x6.var_ x8)].length ≤ 4294967296) (
b_sBound_l1 a1 a2 xs (y1 ++ [(TBinding.mk x6.var_ x8)])))
def b_sBound (a0 : List TBinding) (a1 : List UInt8) (a2 : TType) : Option (List TBinding) :=
b_sBound_l1 a1 a2 a0 []
set_option maxHeartbeats 4000000 in
theorem w_sBound (a0 : List TBinding) (a1 : List UInt8) (a2 : TType) {r : List TBinding} (h : b_sBound a0 a1 a2 = some r) : SpecP Tryz.prog 105 [.d (.sl 4 (eBindings a0)), .d (.s a1), .d (eType a2)] [.sl 4 (eBindings r)] := by
  obtain ⟨a2_0, a2_1, a2_2⟩ := a2
  unfold b_sBound at h
  refine SpecP_intro Tryz.func105 rfl (by kernel_rfl) rfl fun A _ => ?_
  refine goL ?_
  refine VO_l0 ?_
  refine goL ?_
  refine VO_k (Q_build TBd.h TZ.h rfl (by repeat constructor)) ?_
  refine VO_la1 (u := (.st [.s a1, .st [.i .i64 a2_0, .s a2_1, .sl 3 (eTypes a2_2)]])) ?_
  refine goL ?_
  refine V_block ?_
  show V _ _ _ _ _
  refine V_bd 0 (fun z4 => ?_)
  refine V_loop3 (fun (y3 : Nat) (y1 : List TBinding) (v2 : Nat) => ⟨[(0, .d (.sl 4 (eBindings a0))), (1, .d (.s a1)), (5, .ptr 0 0), (7, .sl 1 v2), (8, .sl 2 0), (9, .d (.i .i64 (y3 : Int)))], [.box [.d (.i .i64 a2_0), .d (.s a2_1), .d (.sl 3 (eTypes a2_2))], .own 37 4 v2 (eBindings y1), .arr 37 4 0 (eBindings [(TBinding.mk a1 (TType.mk a2_0 a2_1 a2_2))])], Tryz.f105.ntmps⟩) (fun y3 y1 v2 => b_sBound_l1 a1 (TType.mk a2_0 a2_1 a2_2) (a0.drop y3) y1 = some r) (fun y3 y1 v2 => a0.length - y3) 0 [] 0 ⟨rfl, ⟨⟨rfl, rfl⟩, ⟨rfl, rfl⟩, ⟨rfl, rfl⟩, ⟨rfl, rfl⟩, ⟨rfl, rfl⟩, ⟨rfl, rfl⟩, trivial⟩, ⟨[], rfl⟩, rfl⟩ h ?_
  rintro y3 y1 v2 h
  refine goL ?_
  refine V_cb (fun c5 => ?_) (fun c5 => ?_)
  · have hky32 := kltN c5
    obtain ⟨x6, hx6, hdx6⟩ := drop_at hky32
    rw [hdx6, b_sBound_l1.eq_2] at h
    obtain ⟨x6_0, ⟨x6_1_0, x6_1_1, x6_1_2⟩⟩ := x6
    refine V_skip ?_
    show V _ _ _ _ _
    refine V_seq (V_block ?_)
    refine V_drawX (P := Tryz.prog) Mix.h [(0, true), (1, true), (2, true), (3, true), (4, true), (5, true), (6, true), (7, true), (8, true), (9, true), (10, true), (11, true), (12, false), (13, true), (14, false), (15, false), (16, true)] (by kernel_rfl) ?_
    refine goY ?_
    refine VY_ri rfl (QR_ixn y3 (gBinding hx6)) ?_
    refine goY ?_
    refine VY_ri rfl (QR_ixn y3 (gBinding hx6)) ?_
    refine goY ?_
    obtain ⟨g7, h⟩ := gd_s h
    obtain ⟨x8, hx8, h⟩ := lt_x h
    obtain ⟨x8_0, x8_1, x8_2⟩ := x8
    have sx8 := t_sApply [(TBinding.mk a1 (TType.mk a2_0 a2_1 a2_2))] (TType.mk x6_1_0 x6_1_1 x6_1_2) g7
    rw [hx8] at sx8
    refine VY_co (sx8) ?_
    refine goY ?_
    refine VY_l1t (T := 24) (TBinding.mk x6_0 (TType.mk x8_0 x8_1 x8_2)) ?_
    obtain ⟨g9, h⟩ := gd_s h
    refine VY_ap (T := 24) g9 ?_
    refine goY ?_
    refine VY_nil ?_
    refine goL ?_
    refine VO_r (QR_inc y3 (by omega)) ?_
    refine goL ?_
    exact ⟨(y3 + 1), (y1 ++ [(TBinding.mk x6_0 (TType.mk x8_0 x8_1 x8_2))]), (v2 + 1), h, by omega, ⟨rfl, ⟨⟨rfl, rfl⟩, ⟨rfl, rfl⟩, ⟨rfl, rfl⟩, ⟨rfl, rfl⟩, ⟨rfl, rfl⟩, ⟨rfl, rfl⟩, trivial⟩, ⟨_, rfl⟩, rfl⟩⟩
  · have hky32 := kgeN c5
    rw [drop_end hky32, b_sBound_l1.eq_1] at h
    refine V_exit ?_
    show V _ _ _ _ _
    refine goL ?_
    obtain ⟨g10, h⟩ := gd_s h
    obtain ⟨x11, hx11, h⟩ := lt_x h
    obtain ⟨x11_0, x11_1, x11_2⟩ := x11
    have sx11 := t_sCopyType (TType.mk a2_0 a2_1 a2_2) g10
    rw [hx11] at sx11
    refine VO_co (sx11) ?_
    refine VO_k (Q_build TBd.h TZ.h rfl (by repeat constructor)) ?_
    refine VO_l1t (TBinding.mk a1 (TType.mk x11_0 x11_1 x11_2)) ?_
    obtain ⟨g12, h⟩ := gd_s h
    refine VO_ap g12 ?_
    refine goL ?_
    refine V_freezeO 1 rfl rfl ?_
    refine V_ret ?_
    replace h := Option.some.inj h
    subst h
    exact R_rP
def b_sUnify (rec_sUnify : TType → TType → (List TBinding) → Option (List TBinding × Bool)) (rec_sAll : (List TType) → (List TType) → (List TBinding) → Option (List TBinding × Bool)) (a0 : TType) (a1 : TType) (a2 : List TBinding) : Option (List TBinding × Bool) :=
gd (bok a2 ∧ tok a0) (lt_ (apT a2 a0) fun x2 =>
gd (bok a2 ∧ tok a1) (lt_ (apT a2 a1) fun x4 =>
(cnd (teq x2 x4) (
(some (a2, true))) (
(cnd (decide ((IntKind.i64.wrap ((tsz x2) + (tsz x4))) > 4000)) (
(some (a2, false))) (
(cnd (x2.kind == 1) (
bnd (b_sBound a2 x2.name x4) fun x8 =>
(some (x8, (!(b_sOccurs x2.name x4))))) (
(cnd (x4.kind == 1) (
bnd (b_sBound a2 x4.name x2) fun x10 =>
(some (x10, (!(b_sOccurs x4.name x2))))) (
lt_ ((cnd (x2.kind != x4.kind) (true) ((cnd (!(x2.name == x4.name)) (true) (((x2.args.length : Int) != (x4.args.length : Int))))))) fun b11 =>
(cnd b11 (
(some (a2, false))) (
bnd (rec_sAll x2.args x4.args a2) fun x15 =>
(some (x15.1, x15.2))))))))))))))
set_option maxHeartbeats 4000000 in
theorem w_sUnify {rec_sUnify : TType → TType → (List TBinding) → Option (List TBinding × Bool)} {rec_sAll : (List TType) → (List TType) → (List TBinding) → Option (List TBinding × Bool)} (hrec_sUnify : ∀ (x0 : TType) (x1 : TType) (x2 : List TBinding) {r : List TBinding × Bool}, rec_sUnify x0 x1 x2 = some r → SpecP Tryz.prog 84 [.d (eType x0), .d (eType x1), .d (.sl 4 (eBindings x2))] [.sl 4 (eBindings r.1), .b r.2]) (hrec_sAll : ∀ (x0 : List TType) (x1 : List TType) (x2 : List TBinding) {r : List TBinding × Bool}, rec_sAll x0 x1 x2 = some r → SpecP Tryz.prog 54 [.d (.sl 3 (eTypes x0)), .d (.sl 3 (eTypes x1)), .d (.sl 4 (eBindings x2))] [.sl 4 (eBindings r.1), .b r.2]) (a0 : TType) (a1 : TType) (a2 : List TBinding) {r : List TBinding × Bool} (h : b_sUnify rec_sUnify rec_sAll a0 a1 a2 = some r) : SpecP Tryz.prog 84 [.d (eType a0), .d (eType a1), .d (.sl 4 (eBindings a2))] [.sl 4 (eBindings r.1), .b r.2] := by
  obtain ⟨a0_0, a0_1, a0_2⟩ := a0
  obtain ⟨a1_0, a1_1, a1_2⟩ := a1
  unfold b_sUnify at h
  refine SpecP_intro Tryz.func84 rfl (by kernel_rfl) rfl fun A _ => ?_
  refine goL ?_
  obtain ⟨g1, h⟩ := gd_s h
  obtain ⟨x2, hx2, h⟩ := lt_x h
  obtain ⟨x2_0, x2_1, x2_2⟩ := x2
  have sx2 := (t_sApply a2 (TType.mk a0_0 a0_1 a0_2) g1).p
  rw [hx2] at sx2
  refine VO_r (QR_call (sx2)) ?_
  refine goL ?_
  obtain ⟨g3, h⟩ := gd_s h
  obtain ⟨x4, hx4, h⟩ := lt_x h
  obtain ⟨x4_0, x4_1, x4_2⟩ := x4
  have sx4 := (t_sApply a2 (TType.mk a1_0 a1_1 a1_2) g3).p
  rw [hx4] at sx4
  refine VO_r (QR_call (sx4)) ?_
  refine goL ?_
  refine V_seq (V_block ?_)
  refine goL ?_
  refine VO_r (QR_call (t_sEqualType (TType.mk x2_0 x2_1 x2_2) (TType.mk x4_0 x4_1 x4_2))) ?_
  refine goL ?_
  refine V_cb (fun c5 => ?_) (fun c5 => ?_)
  · replace h := cnd_t c5 h
    refine goL ?_
    refine V_ret ?_
    replace h := Option.some.inj h
    subst h
    exact R_rP
  · replace h := cnd_f c5 h
    refine goL ?_
    refine VQ_r (QR_call (t_sTypeSize (TType.mk x2_0 x2_1 x2_2))) ?_
    refine goL ?_
    refine VQ_r (QR_call (t_sTypeSize (TType.mk x4_0 x4_1 x4_2))) ?_
    refine VQ_r (QR_ar) ?_
    refine goL ?_
    refine V_cb (fun c6 => ?_) (fun c6 => ?_)
    · replace h := cnd_t c6 h
      refine goL ?_
      refine V_ret ?_
      replace h := Option.some.inj h
      subst h
      exact R_rP
    · replace h := cnd_f c6 h
      refine goL ?_
      refine V_cb (fun c7 => ?_) (fun c7 => ?_)
      · replace h := cnd_t c7 h
        refine goL ?_
        obtain ⟨x8, hx8, h⟩ := bnd_s h
        refine VQ_r (QR_call (w_sBound a2 x2_1 (TType.mk x4_0 x4_1 x4_2) hx8)) ?_
        refine goL ?_
        refine VQ_r (QR_call (w_sOccurs x2_1 (TType.mk x4_0 x4_1 x4_2))) ?_
        refine goL ?_
        refine V_ret ?_
        replace h := Option.some.inj h
        subst h
        exact R_rP
      · replace h := cnd_f c7 h
        refine goL ?_
        refine V_cb (fun c9 => ?_) (fun c9 => ?_)
        · replace h := cnd_t c9 h
          refine goL ?_
          obtain ⟨x10, hx10, h⟩ := bnd_s h
          refine VQ_r (QR_call (w_sBound a2 x4_1 (TType.mk x2_0 x2_1 x2_2) hx10)) ?_
          refine goL ?_
          refine VQ_r (QR_call (w_sOccurs x4_1 (TType.mk x2_0 x2_1 x2_2))) ?_
          refine goL ?_
          refine V_ret ?_
          replace h := Option.some.inj h
          subst h
          exact R_rP
        · replace h := cnd_f c9 h
          refine goL ?_
          obtain ⟨b11, hb11, h⟩ := lt_x h
          refine VO_join ⟨[(2, .d (.sl 4 (eBindings a2))), (3, .ptr 0 0), (4, .ptr 1 0), (55, .d (.b b11))], [.box [.d (.i .i64 x2_0), .d (.s x2_1), .d (.sl 3 (eTypes x2_2))], .box [.d (.i .i64 x4_0), .d (.s x4_1), .d (.sl 3 (eTypes x4_2))]], Tryz.f84.ntmps⟩ ?_ ?_
          · refine VO_case 61 (fun c12 => ?_) (fun c12 => ?_) (by first | rfl | (simp only [eTypes_len, eBindings_len]; rfl))
            · replace hb11 := cnd_t c12 hb11
              refine goL ?_
              cases hb11
              exact ⟨rfl, ⟨⟨rfl, rfl⟩, ⟨rfl, rfl⟩, ⟨rfl, rfl⟩, ⟨by first | rfl | (simp only [eTypes_len, eBindings_len]; rfl), rfl⟩, trivial⟩, ⟨[], rfl⟩, rfl⟩
            · replace hb11 := cnd_f c12 hb11
              refine goL ?_
              refine VO_case 68 (fun c13 => ?_) (fun c13 => ?_) (by first | rfl | (simp only [eTypes_len, eBindings_len]; rfl))
              · replace hb11 := cnd_t c13 hb11
                refine goL ?_
                cases hb11
                exact ⟨rfl, ⟨⟨rfl, rfl⟩, ⟨rfl, rfl⟩, ⟨rfl, rfl⟩, ⟨by first | rfl | (simp only [eTypes_len, eBindings_len]; rfl), rfl⟩, trivial⟩, ⟨[], rfl⟩, rfl⟩
              · replace hb11 := cnd_f c13 hb11
                refine goL ?_
                cases hb11
                exact ⟨rfl, ⟨⟨rfl, rfl⟩, ⟨rfl, rfl⟩, ⟨rfl, rfl⟩, ⟨by first | rfl | (simp only [eTypes_len, eBindings_len]; rfl), rfl⟩, trivial⟩, ⟨[], rfl⟩, rfl⟩
          refine goL ?_
          refine V_cb (fun c14 => ?_) (fun c14 => ?_)
          · replace h := cnd_t c14 h
            refine goL ?_
            refine V_ret ?_
            replace h := Option.some.inj h
            subst h
            exact R_rP
          · replace h := cnd_f c14 h
            refine V_skip ?_
            show V _ _ _ _ _
            refine goL ?_
            obtain ⟨x15, hx15, h⟩ := bnd_s h
            obtain ⟨x15_0, x15_1⟩ := x15
            refine VO_r (QR_call (hrec_sAll x2_2 x4_2 a2 hx15)) ?_
            refine goL ?_
            refine V_ret ?_
            replace h := Option.some.inj h
            subst h
            exact R_rP
def b_sAll_l1 (rec_sUnify : TType → TType → (List TBinding) → Option (List TBinding × Bool)) (a1 : List TType) : List TType → Nat → (List TBinding) → Option (List TBinding × Bool)
  | [], y2, y1 => (some (y1, true))
  | x5 :: xs, y2, y1 => bnd (at? a1 (y2 : Int)) fun x6 =>
bnd (rec_sUnify x5 x6 y1) fun x7 =>
(cnd (!x7.2) (
(some (y1, false))) (
b_sAll_l1 rec_sUnify a1 xs (y2 + 1) x7.1))
def b_sAll (rec_sUnify : TType → TType → (List TBinding) → Option (List TBinding × Bool)) (rec_sAll : (List TType) → (List TType) → (List TBinding) → Option (List TBinding × Bool)) (a0 : List TType) (a1 : List TType) (a2 : List TBinding) : Option (List TBinding × Bool) :=
b_sAll_l1 rec_sUnify a1 a0 0 a2
set_option maxHeartbeats 4000000 in
theorem w_sAll {rec_sUnify : TType → TType → (List TBinding) → Option (List TBinding × Bool)} {rec_sAll : (List TType) → (List TType) → (List TBinding) → Option (List TBinding × Bool)} (hrec_sUnify : ∀ (x0 : TType) (x1 : TType) (x2 : List TBinding) {r : List TBinding × Bool}, rec_sUnify x0 x1 x2 = some r → SpecP Tryz.prog 84 [.d (eType x0), .d (eType x1), .d (.sl 4 (eBindings x2))] [.sl 4 (eBindings r.1), .b r.2]) (hrec_sAll : ∀ (x0 : List TType) (x1 : List TType) (x2 : List TBinding) {r : List TBinding × Bool}, rec_sAll x0 x1 x2 = some r → SpecP Tryz.prog 54 [.d (.sl 3 (eTypes x0)), .d (.sl 3 (eTypes x1)), .d (.sl 4 (eBindings x2))] [.sl 4 (eBindings r.1), .b r.2]) (a0 : List TType) (a1 : List TType) (a2 : List TBinding) {r : List TBinding × Bool} (h : b_sAll rec_sUnify rec_sAll a0 a1 a2 = some r) : SpecP Tryz.prog 54 [.d (.sl 3 (eTypes a0)), .d (.sl 3 (eTypes a1)), .d (.sl 4 (eBindings a2))] [.sl 4 (eBindings r.1), .b r.2] := by
  unfold b_sAll at h
  refine SpecP_intro Tryz.func54 rfl (by kernel_rfl) rfl fun A _ => ?_
  refine goL ?_
  refine V_block ?_
  show V _ _ _ _ _
  refine V_bd 0 (fun z3 => ?_)
  refine V_loop2 (fun (y2 : Nat) (y1 : List TBinding) => ⟨[(0, .d (.sl 3 (eTypes a0))), (1, .d (.sl 3 (eTypes a1))), (2, .d (.sl 4 (eBindings y1))), (8, .d (.i .i64 (y2 : Int)))], [], Tryz.f54.ntmps⟩) (fun y2 y1 => b_sAll_l1 rec_sUnify a1 (a0.drop y2) y2 y1 = some r) (fun y2 y1 => a0.length - y2) 0 a2 ⟨rfl, ⟨⟨rfl, rfl⟩, ⟨rfl, rfl⟩, ⟨rfl, rfl⟩, ⟨rfl, rfl⟩, trivial⟩, ⟨[], rfl⟩, rfl⟩ h ?_
  rintro y2 y1 h
  refine goL ?_
  refine V_cb (fun c4 => ?_) (fun c4 => ?_)
  · have hky22 := kltN c4
    obtain ⟨x5, hx5, hdx5⟩ := drop_at hky22
    rw [hdx5, b_sAll_l1.eq_2] at h
    obtain ⟨x5_0, x5_1, x5_2⟩ := x5
    refine V_skip ?_
    show V _ _ _ _ _
    refine V_seq (V_block ?_)
    refine goL ?_
    refine VQ_r (QR_ixn y2 (gType hx5)) ?_
    refine goL ?_
    obtain ⟨x6, hx6, h⟩ := bnd_s h
    rw [at_nat] at hx6
    obtain ⟨x6_0, x6_1, x6_2⟩ := x6
    refine VQ_r (QR_ixn y2 (gType hx6)) ?_
    refine goL ?_
    obtain ⟨x7, hx7, h⟩ := bnd_s h
    obtain ⟨x7_0, x7_1⟩ := x7
    refine VQ_r (QR_call (hrec_sUnify (TType.mk x5_0 x5_1 x5_2) (TType.mk x6_0 x6_1 x6_2) y1 hx7)) ?_
    refine goL ?_
    refine V_cb (fun c8 => ?_) (fun c8 => ?_)
    · replace h := cnd_t c8 h
      refine goL ?_
      refine V_ret ?_
      replace h := Option.some.inj h
      subst h
      exact R_rP
    · replace h := cnd_f c8 h
      refine V_skip ?_
      show V _ _ _ _ _
      refine goL ?_
      refine VO_r (QR_inc y2 (by omega)) ?_
      refine goL ?_
      exact ⟨(y2 + 1), x7_0, h, by omega, ⟨rfl, ⟨⟨rfl, rfl⟩, ⟨rfl, rfl⟩, ⟨rfl, rfl⟩, ⟨rfl, rfl⟩, trivial⟩, ⟨_, rfl⟩, rfl⟩⟩
  · have hky22 := kgeN c4
    rw [drop_end hky22, b_sAll_l1.eq_1] at h
    refine V_exit ?_
    show V _ _ _ _ _
    refine goL ?_
    refine V_ret ?_
    replace h := Option.some.inj h
    subst h
    exact R_rP
mutual
def m_sUnify : Nat → TType → TType → (List TBinding) → Option (List TBinding × Bool)
  | 0, _, _, _ => none
  | n + 1, x0, x1, x2 => b_sUnify (m_sUnify n) (m_sAll n) x0 x1 x2
def m_sAll : Nat → (List TType) → (List TType) → (List TBinding) → Option (List TBinding × Bool)
  | 0, _, _, _ => none
  | n + 1, x0, x1, x2 => b_sAll (m_sUnify n) (m_sAll n) x0 x1 x2
end
theorem ss_sUnify : ∀ (n : Nat), (∀ (x0 : TType) (x1 : TType) (x2 : List TBinding) {r : List TBinding × Bool}, m_sUnify n x0 x1 x2 = some r → SpecP Tryz.prog 84 [.d (eType x0), .d (eType x1), .d (.sl 4 (eBindings x2))] [.sl 4 (eBindings r.1), .b r.2]) ∧ (∀ (x0 : List TType) (x1 : List TType) (x2 : List TBinding) {r : List TBinding × Bool}, m_sAll n x0 x1 x2 = some r → SpecP Tryz.prog 54 [.d (.sl 3 (eTypes x0)), .d (.sl 3 (eTypes x1)), .d (.sl 4 (eBindings x2))] [.sl 4 (eBindings r.1), .b r.2]) := by
  intro n
  induction n with
  | zero => exact ⟨(by intro x0 x1 x2 r h; cases h), (by intro x0 x1 x2 r h; cases h)⟩
  | succ n ih =>
    obtain ⟨ih0, ih1⟩ := ih
    refine ⟨(fun x0 x1 x2 r h => w_sUnify ih0 ih1 x0 x1 x2 h), (fun x0 x1 x2 r h => w_sAll ih0 ih1 x0 x1 x2 h)⟩
theorem s_sAll : ∀ (n : Nat) (x0 : List TType) (x1 : List TType) (x2 : List TBinding) {r : List TBinding × Bool}, m_sAll n x0 x1 x2 = some r → SpecP Tryz.prog 54 [.d (.sl 3 (eTypes x0)), .d (.sl 3 (eTypes x1)), .d (.sl 4 (eBindings x2))] [.sl 4 (eBindings r.1), .b r.2] := fun n => (ss_sUnify n).2
def b_l6Copy_l1 : List TBinding → (List TBinding) → Option (List TBinding)
  | [], y1 => (some y1)
  | x6 :: xs, y1 => gd (tok x6.type_) (lt_ (idT x6.type_) fun x8 =>
gd (y1.length + [(TBinding.mk x6.var_ x8)].length ≤ 4294967296) (
b_l6Copy_l1 xs (y1 ++ [(TBinding.mk x6.var_ x8)])))
def b_l6Copy (a0 : List TBinding) : Option (List TBinding) :=
b_l6Copy_l1 a0 []
set_option maxHeartbeats 4000000 in
theorem w_l6Copy (a0 : List TBinding) {r : List TBinding} (h : b_l6Copy a0 = some r) : SpecP Tryz.prog 55 [.d (.sl 4 (eBindings a0))] [.sl 4 (eBindings r)] := by
  unfold b_l6Copy at h
  refine SpecP_intro Tryz.func55 rfl (by kernel_rfl) rfl fun A _ => ?_
  refine goL ?_
  refine VO_l0 ?_
  refine goL ?_
  refine V_block ?_
  show V _ _ _ _ _
  refine V_bd 0 (fun z4 => ?_)
  refine V_loop3 (fun (y3 : Nat) (y1 : List TBinding) (v2 : Nat) => ⟨[(0, .d (.sl 4 (eBindings a0))), (3, .sl 0 v2), (4, .d (.i .i64 (y3 : Int)))], [.own 37 4 v2 (eBindings y1)], Tryz.f55.ntmps⟩) (fun y3 y1 v2 => b_l6Copy_l1 (a0.drop y3) y1 = some r) (fun y3 y1 v2 => a0.length - y3) 0 [] 0 ⟨rfl, ⟨⟨rfl, rfl⟩, ⟨rfl, rfl⟩, ⟨rfl, rfl⟩, trivial⟩, ⟨[], rfl⟩, rfl⟩ h ?_
  rintro y3 y1 v2 h
  refine goL ?_
  refine V_cb (fun c5 => ?_) (fun c5 => ?_)
  · have hky32 := kltN c5
    obtain ⟨x6, hx6, hdx6⟩ := drop_at hky32
    rw [hdx6, b_l6Copy_l1.eq_2] at h
    obtain ⟨x6_0, ⟨x6_1_0, x6_1_1, x6_1_2⟩⟩ := x6
    refine V_skip ?_
    show V _ _ _ _ _
    refine V_seq (V_block ?_)
    refine V_drawX (P := Tryz.prog) Mix.h [(0, true), (1, true), (2, true), (3, true), (4, true), (5, true), (6, true), (7, true), (8, true), (9, true), (10, true), (11, false), (12, true), (13, false), (14, false), (15, true)] (by kernel_rfl) ?_
    refine goY ?_
    refine VY_ri rfl (QR_ixn y3 (gBinding hx6)) ?_
    refine goY ?_
    refine VY_ri rfl (QR_ixn y3 (gBinding hx6)) ?_
    refine goY ?_
    obtain ⟨g7, h⟩ := gd_s h
    obtain ⟨x8, hx8, h⟩ := lt_x h
    obtain ⟨x8_0, x8_1, x8_2⟩ := x8
    have sx8 := t_sCopyType (TType.mk x6_1_0 x6_1_1 x6_1_2) g7
    rw [hx8] at sx8
    refine VY_co (sx8) ?_
    refine goY ?_
    refine VY_l1t (T := 24) (TBinding.mk x6_0 (TType.mk x8_0 x8_1 x8_2)) ?_
    obtain ⟨g9, h⟩ := gd_s h
    refine VY_ap (T := 24) g9 ?_
    refine goY ?_
    refine VY_nil ?_
    refine goL ?_
    refine VO_r (QR_inc y3 (by omega)) ?_
    refine goL ?_
    exact ⟨(y3 + 1), (y1 ++ [(TBinding.mk x6_0 (TType.mk x8_0 x8_1 x8_2))]), (v2 + 1), h, by omega, ⟨rfl, ⟨⟨rfl, rfl⟩, ⟨rfl, rfl⟩, ⟨rfl, rfl⟩, trivial⟩, ⟨_, rfl⟩, rfl⟩⟩
  · have hky32 := kgeN c5
    rw [drop_end hky32, b_l6Copy_l1.eq_1] at h
    refine V_exit ?_
    show V _ _ _ _ _
    refine goL ?_
    refine V_freezeO 0 rfl rfl ?_
    refine V_ret ?_
    replace h := Option.some.inj h
    subst h
    exact R_rP
def b_sUnifyAll (a0 : List TType) (a1 : List TType) : Option (List TBinding × Bool) :=
(cnd ((a0.length : Int) != (a1.length : Int)) (
(some ([], false))) (
bnd (m_sAll 100000 a0 a1 []) fun x2 =>
(cnd (!x2.2) (
(some ([], false))) (
bnd (b_l6Copy x2.1) fun x4 =>
(some (x4, true))))))
set_option maxHeartbeats 4000000 in
theorem w_sUnifyAll (a0 : List TType) (a1 : List TType) {r : List TBinding × Bool} (h : b_sUnifyAll a0 a1 = some r) : SpecP Tryz.prog 25 [.d (.sl 3 (eTypes a0)), .d (.sl 3 (eTypes a1))] [.sl 4 (eBindings r.1), .b r.2] := by
  unfold b_sUnifyAll at h
  refine SpecP_intro Tryz.func25 rfl (by kernel_rfl) rfl fun A _ => ?_
  refine goL ?_
  refine V_cb (fun c1 => ?_) (fun c1 => ?_)
  · replace h := cnd_t c1 h
    refine goL ?_
    refine VO_l0 ?_
    refine goL ?_
    refine V_freezeO 0 rfl rfl ?_
    refine V_ret ?_
    replace h := Option.some.inj h
    subst h
    exact R_rP
  · replace h := cnd_f c1 h
    refine V_skip ?_
    show V _ _ _ _ _
    refine goL ?_
    refine VO_l0 ?_
    refine VO_freezeO 0 rfl rfl ?_
    obtain ⟨x2, hx2, h⟩ := bnd_s h
    obtain ⟨x2_0, x2_1⟩ := x2
    refine VO_k (Q_cl (s_sAll 100000 a0 a1 [] hx2)) ?_
    refine goL ?_
    refine V_cb (fun c3 => ?_) (fun c3 => ?_)
    · replace h := cnd_t c3 h
      refine goL ?_
      refine VO_l0 ?_
      refine goL ?_
      refine V_freezeO 1 rfl rfl ?_
      refine V_ret ?_
      replace h := Option.some.inj h
      subst h
      exact R_rP
    · replace h := cnd_f c3 h
      refine V_skip ?_
      show V _ _ _ _ _
      refine goL ?_
      obtain ⟨x4, hx4, h⟩ := bnd_s h
      refine VO_r (QR_call (w_l6Copy x2_0 hx4)) ?_
      refine goL ?_
      refine V_ret ?_
      replace h := Option.some.inj h
      subst h
      exact R_rP
def b_sUnifyF (a0 : TType) (a1 : TType) : Option (List TBinding × Bool) :=
bnd (b_sUnifyAll [a0] [a1]) fun x1 =>
(some (x1.1, x1.2))
set_option maxHeartbeats 4000000 in
theorem w_sUnifyF (a0 : TType) (a1 : TType) {r : List TBinding × Bool} (h : b_sUnifyF a0 a1 = some r) : SpecP Tryz.prog 10 [.d (eType a0), .d (eType a1)] [.sl 4 (eBindings r.1), .b r.2] := by
  obtain ⟨a0_0, a0_1, a0_2⟩ := a0
  obtain ⟨a1_0, a1_1, a1_2⟩ := a1
  unfold b_sUnifyF at h
  refine SpecP_intro Tryz.func10 rfl (by kernel_rfl) rfl fun A _ => ?_
  refine goL ?_
  refine VO_la1 (u := (.st [.i .i64 a0_0, .s a0_1, .sl 3 (eTypes a0_2)])) ?_
  refine goL ?_
  refine VO_la1 (u := (.st [.i .i64 a1_0, .s a1_1, .sl 3 (eTypes a1_2)])) ?_
  refine VO_freeze 2 rfl rfl ?_
  refine VO_freeze 3 rfl rfl ?_
  obtain ⟨x1, hx1, h⟩ := bnd_s h
  obtain ⟨x1_0, x1_1⟩ := x1
  refine VO_k (Q_cl (w_sUnifyAll [(TType.mk a0_0 a0_1 a0_2)] [(TType.mk a1_0 a1_1 a1_2)] hx1)) ?_
  refine goL ?_
  refine V_ret ?_
  replace h := Option.some.inj h
  subst h
  exact R_rP
end Go.Proofs.YtgmlpaaklnkghaaGreat
