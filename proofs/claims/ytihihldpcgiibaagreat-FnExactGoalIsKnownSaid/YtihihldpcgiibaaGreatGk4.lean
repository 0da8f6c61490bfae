/- Gk4. Written by a program of mine (aw.py). -/
import Derived.Test.YtihihldpcgiibaaGreatFacts
import Derived.Test.YtihihldpcgiibaaGreatGk3
set_option linter.unusedVariables false
set_option linter.unusedSimpArgs false
set_option linter.unusedSectionVars false
namespace Go.Proofs.YtihihldpcgiibaaGreat
open Go Go.Eng
attribute [local irreducible] V VO VQ VY Quiet QR SpecP SpecO MSpec Rng PostP PostO PostG
def b_TypeNames1 (u : TType) (l1 : List (List UInt8)) : Option (List (List UInt8)) :=
lt_ ((cnd (u.kind == 2) ((cnd (!(b_iBuiltIn u.name)) ((!(b_ContainsS l1 u.name))) ((cnd (u.kind == 4) ((!(b_ContainsS l1 u.name))) (false))))) ((cnd (u.kind == 4) ((!(b_ContainsS l1 u.name))) (false))))) fun b1 =>
(cnd b1 (
gd (l1.length + [u.name].length ≤ 4294967296) (
(some (l1 ++ [u.name])))) (
(some l1)))
set_option maxHeartbeats 4000000 in
theorem w_TypeNames1 (u : TType) (l1 : List (List UInt8)) (v1 : Nat) {r : List (List UInt8)} (h : b_TypeNames1 u l1 = some r) : Go.Eng.Spec Tryz.prog 101 [.d (eType u), .ptr 0 0] [.box [.sl 1 v1], .own 9 1 v1 (eStrs l1)] (fun sv Lo => ∃ v'1, sv = .tup [] ∧ Lo = [.box [.sl 1 v'1], .own 9 1 v'1 (eStrs r)]) := by
  obtain ⟨u_0, u_1, u_2⟩ := u
  unfold b_TypeNames1 at h
  refine Spec_intro 2 Tryz.func101 rfl (by kernel_rfl) rfl rfl fun A _ => ?_
  refine goL ?_
  obtain ⟨b1, hb1, h⟩ := lt_x h
  refine VO_join ⟨[(1, .ptr 0 0), (2, .ptr 2 0), (23, .d (.b b1))], [.box [.sl 1 v1], .own 9 1 v1 (eStrs l1), .box [.d (.i .i64 u_0), .d (.s u_1), .d (.sl 3 (eTypes u_2))]], Tryz.f101.ntmps⟩ ?_ ?_
  · refine VO_case 6 (fun c2 => ?_) (fun c2 => ?_)
    · replace hb1 := cnd_t c2 hb1
      refine goL ?_
      refine VO_b ?_
      refine VO_r (QR_call (w_iBuiltIn u_1)) ?_
      refine goL ?_
      refine VO_case 12 (fun c3 => ?_) (fun c3 => ?_)
      · replace hb1 := cnd_t c3 hb1
        refine goL ?_
        refine VO_b ?_
        refine VO_k (Q_cb (w_ContainsS l1 u_1)) ?_
        refine goL ?_
        cases hb1
        exact ⟨rfl, ⟨⟨rfl, rfl⟩, ⟨rfl, rfl⟩, ⟨rfl, rfl⟩, trivial⟩, ⟨[], rfl⟩, rfl⟩
      · replace hb1 := cnd_f c3 hb1
        refine goL ?_
        refine VO_case 17 (fun c4 => ?_) (fun c4 => ?_)
        · replace hb1 := cnd_t c4 hb1
          refine goL ?_
          refine VO_b ?_
          refine VO_k (Q_cb (w_ContainsS l1 u_1)) ?_
          refine goL ?_
          cases hb1
          exact ⟨rfl, ⟨⟨rfl, rfl⟩, ⟨rfl, rfl⟩, ⟨rfl, rfl⟩, trivial⟩, ⟨[], rfl⟩, rfl⟩
        · replace hb1 := cnd_f c4 hb1
          refine goL ?_
          cases hb1
          exact ⟨rfl, ⟨⟨rfl, rfl⟩, ⟨rfl, rfl⟩, ⟨rfl, rfl⟩, trivial⟩, ⟨[], rfl⟩, rfl⟩
    · replace hb1 := cnd_f c2 hb1
      refine goL ?_
      refine VO_case 17 (fun c5 => ?_) (fun c5 => ?_)
      · replace hb1 := cnd_t c5 hb1
        refine goL ?_
        refine VO_b ?_
        refine VO_k (Q_cb (w_ContainsS l1 u_1)) ?_
        refine goL ?_
        cases hb1
        exact ⟨rfl, ⟨⟨rfl, rfl⟩, ⟨rfl, rfl⟩, ⟨rfl, rfl⟩, trivial⟩, ⟨[], rfl⟩, rfl⟩
      · replace hb1 := cnd_f c5 hb1
        refine goL ?_
        cases hb1
        exact ⟨rfl, ⟨⟨rfl, rfl⟩, ⟨rfl, rfl⟩, ⟨rfl, rfl⟩, trivial⟩, ⟨[], rfl⟩, rfl⟩
  refine goL ?_
  refine V_cb (fun c6 => ?_) (fun c6 => ?_)
  · replace h := cnd_t c6 h
    refine goL ?_
    refine VO_l1t u_1 ?_
    obtain ⟨g7, h⟩ := gd_s h
    refine VO_ap g7 ?_
    refine goL ?_
    replace h := Option.some.inj h
    subst h
    exact N_rG [] [.box [.sl 1 (v1 + 1)], .own 9 1 (v1 + 1) (eStrs (l1 ++ [u_1]))] ⟨(v1 + 1), rfl, rfl⟩
  · replace h := cnd_f c6 h
    refine V_skip ?_
    show PostG _ _ _ _ _ _
    replace h := Option.some.inj h
    subst h
    exact N_rG [] [.box [.sl 1 v1], .own 9 1 v1 (eStrs l1)] ⟨v1, rfl, rfl⟩
def b_eachNames_l1 (rec_eachNames : TType → (List (List UInt8)) → Option (List (List UInt8))) : List TType → (List (List UInt8)) → Option (List (List UInt8))
  | [], y3 => (some y3)
  | x8 :: xs, y3 => bnd (rec_eachNames x8 y3) fun x9 =>
b_eachNames_l1 rec_eachNames xs x9
def b_eachNames (rec_eachNames : TType → (List (List UInt8)) → Option (List (List UInt8))) (u : TType) (l1 : List (List UInt8)) : Option (List (List UInt8)) :=
bnd (b_TypeNames1 u l1) fun x1 =>
b_eachNames_l1 rec_eachNames u.args x1
set_option maxHeartbeats 4000000 in
theorem w_eachNames {rec_eachNames : TType → (List (List UInt8)) → Option (List (List UInt8))} (hrec_eachNames : ∀ (x0 : TType) (x1 : List (List UInt8)) (w0 : Nat) {r : List (List UInt8)}, rec_eachNames x0 x1 = some r → Go.Eng.Spec Tryz.prog 100 [.d (eType x0), .fn 101 [.ptr 0 0]] [.box [.sl 1 w0], .own 9 1 w0 (eStrs x1)] (fun sv Lo => ∃ v'1, sv = .tup [] ∧ Lo = [.box [.sl 1 v'1], .own 9 1 v'1 (eStrs r)])) (u : TType) (l1 : List (List UInt8)) (v1 : Nat) {r : List (List UInt8)} (h : b_eachNames rec_eachNames u l1 = some r) : Go.Eng.Spec Tryz.prog 100 [.d (eType u), .fn 101 [.ptr 0 0]] [.box [.sl 1 v1], .own 9 1 v1 (eStrs l1)] (fun sv Lo => ∃ v'1, sv = .tup [] ∧ Lo = [.box [.sl 1 v'1], .own 9 1 v'1 (eStrs r)]) := by
  obtain ⟨u_0, u_1, u_2⟩ := u
  unfold b_eachNames at h
  refine Spec_intro 2 Tryz.func100 rfl (by kernel_rfl) rfl rfl fun A _ => ?_
  refine goL ?_
  obtain ⟨x1, hx1, h⟩ := bnd_s h
  refine VO_cG [0, 1] (w_TypeNames1 (TType.mk u_0 u_1 u_2) l1 v1 hx1) ?_
  rintro _ _ ⟨v2, rfl, rfl⟩
  show VO _ _ _ _ ⟨(_, .tup []) :: _, [.box [.sl 1 v2], .own 9 1 v2 (eStrs x1), .box [.d (.i .i64 u_0), .d (.s u_1), .d (.sl 3 (eTypes u_2))]], _⟩ _
  refine goL ?_
  refine V_block ?_
  show V _ _ _ _ _
  refine V_bd 10 (fun z6 => ?_)
  refine V_loop3 (fun (y5 : Nat) (y3 : List (List UInt8)) (v4 : Nat) => ⟨[(1, .fn 101 [.ptr 0 0]), (10, .d (.sl 3 (eTypes u_2))), (11, .d (.i .i64 (u_2.length : Int))), (12, .d (.i .i64 (y5 : Int)))], [.box [.sl 1 v4], .own 9 1 v4 (eStrs y3), .box [.d (.i .i64 u_0), .d (.s u_1), .d (.sl 3 (eTypes u_2))]], Tryz.f100.ntmps⟩) (fun y5 y3 v4 => b_eachNames_l1 rec_eachNames (u_2.drop y5) y3 = some r) (fun y5 y3 v4 => u_2.length - y5) 0 x1 v2 ⟨rfl, ⟨⟨rfl, rfl⟩, ⟨rfl, rfl⟩, ⟨rfl, rfl⟩, ⟨rfl, rfl⟩, trivial⟩, ⟨[], rfl⟩, rfl⟩ h ?_
  rintro y5 y3 v4 h
  refine goL ?_
  refine V_seq (V_cb (fun c7 => ?_) (fun c7 => ?_))
  · have hky52 := kltN c7
    obtain ⟨x8, hx8, hdx8⟩ := drop_at hky52
    rw [hdx8, b_eachNames_l1.eq_2] at h
    obtain ⟨x8_0, x8_1, x8_2⟩ := x8
    refine V_skip ?_
    show V _ _ _ _ _
    refine V_seq (V_block ?_)
    refine goL ?_
    refine VO_r (QR_ixn y5 (gType hx8)) ?_
    refine goL ?_
    obtain ⟨x9, hx9, h⟩ := bnd_s h
    refine VO_cG [0, 1] (hrec_eachNames (TType.mk x8_0 x8_1 x8_2) y3 v4 hx9) ?_
    rintro _ _ ⟨v10, rfl, rfl⟩
    show VO _ _ _ _ ⟨(_, .tup []) :: _, [.box [.sl 1 v10], .own 9 1 v10 (eStrs x9), .box [.d (.i .i64 u_0), .d (.s u_1), .d (.sl 3 (eTypes u_2))], .box [.d (.i .i64 x8_0), .d (.s x8_1), .d (.sl 3 (eTypes x8_2))]], _⟩ _
    refine goL ?_
    refine VO_r (QR_inc y5 (by omega)) ?_
    refine goL ?_
    exact ⟨(y5 + 1), x9, v10, h, by omega, ⟨rfl, ⟨⟨rfl, rfl⟩, ⟨rfl, rfl⟩, ⟨rfl, rfl⟩, ⟨rfl, rfl⟩, trivial⟩, ⟨_, rfl⟩, rfl⟩⟩
  · have hky52 := kgeN c7
    rw [drop_end hky52, b_eachNames_l1.eq_1] at h
    refine V_exit ?_
    show PostG _ _ _ _ _ _
    replace h := Option.some.inj h
    subst h
    exact N_rG [] [.box [.sl 1 v4], .own 9 1 v4 (eStrs y3)] ⟨v4, rfl, rfl⟩
def m_eachNames : Nat → TType → (List (List UInt8)) → Option (List (List UInt8))
  | 0, _, _ => none
  | n + 1, x0, x1 => b_eachNames (m_eachNames n) x0 x1
theorem s_eachNames : ∀ (n : Nat) (x0 : TType) (x1 : List (List UInt8)) (w0 : Nat) {r : List (List UInt8)}, m_eachNames n x0 x1 = some r → Go.Eng.Spec Tryz.prog 100 [.d (eType x0), .fn 101 [.ptr 0 0]] [.box [.sl 1 w0], .own 9 1 w0 (eStrs x1)] (fun sv Lo => ∃ v'1, sv = .tup [] ∧ Lo = [.box [.sl 1 v'1], .own 9 1 v'1 (eStrs r)]) := by
  intro n
  induction n with
  | zero => intro x0 x1 w0 r h; cases h
  | succ n ih => intro x0 x1 w0 r h; exact w_eachNames ih x0 x1 w0 h
def b_l10Names_l1 (rec_l10Names : TType → (List (List UInt8)) → Option (List (List UInt8))) : List TType → (List (List UInt8)) → Option (List (List UInt8))
  | [], y8 => (some y8)
  | x13 :: xs, y8 => bnd (rec_l10Names x13 y8) fun x14 =>
b_l10Names_l1 rec_l10Names xs x14
def b_l10Names_l2 (rec_l10Names : TType → (List (List UInt8)) → Option (List (List UInt8))) : List TType → (List (List UInt8)) → Option (List (List UInt8))
  | [], y16 => (some y16)
  | x21 :: xs, y16 => bnd (rec_l10Names x21 y16) fun x22 =>
b_l10Names_l2 rec_l10Names xs x22
def b_l10Names (rec_l10Names : TType → (List (List UInt8)) → Option (List (List UInt8))) (u : TType) (l0 : List (List UInt8)) : Option (List (List UInt8)) :=
lt_ ((cnd (u.kind == 2) ((cnd (!(b_l4Base u.name)) ((!(b_l1Has l0 u.name))) ((cnd (u.kind == 4) ((!(b_l1Has l0 u.name))) (false))))) ((cnd (u.kind == 4) ((!(b_l1Has l0 u.name))) (false))))) fun b1 =>
(cnd b1 (
gd (l0.length + [u.name].length ≤ 4294967296) (
b_l10Names_l1 rec_l10Names u.args (l0 ++ [u.name]))) (
b_l10Names_l2 rec_l10Names u.args l0))
set_option maxHeartbeats 4000000 in
theorem w_l10Names {rec_l10Names : TType → (List (List UInt8)) → Option (List (List UInt8))} (hrec_l10Names : ∀ (x0 : TType) (x1 : List (List UInt8)) (w0 : Nat) {r : List (List UInt8)}, rec_l10Names x0 x1 = some r → Go.Eng.Spec Tryz.prog 93 [.d (eType x0), .sl 0 w0] [.own 9 1 w0 (eStrs x1)] (fun sv Lo => ∃ v'0, sv = .sl 0 v'0 ∧ Lo = [.own 9 1 v'0 (eStrs r)])) (u : TType) (l0 : List (List UInt8)) (v0 : Nat) {r : List (List UInt8)} (h : b_l10Names rec_l10Names u l0 = some r) : Go.Eng.Spec Tryz.prog 93 [.d (eType u), .sl 0 v0] [.own 9 1 v0 (eStrs l0)] (fun sv Lo => ∃ v'0, sv = .sl 0 v'0 ∧ Lo = [.own 9 1 v'0 (eStrs r)]) := by
  obtain ⟨u_0, u_1, u_2⟩ := u
  unfold b_l10Names at h
  refine Spec_intro 1 Tryz.func93 rfl (by kernel_rfl) rfl rfl fun A _ => ?_
  refine goL ?_
  obtain ⟨b1, hb1, h⟩ := lt_x h
  refine VO_join ⟨[(1, .sl 0 v0), (2, .ptr 1 0), (26, .d (.b b1))], [.own 9 1 v0 (eStrs l0), .box [.d (.i .i64 u_0), .d (.s u_1), .d (.sl 3 (eTypes u_2))]], Tryz.f93.ntmps⟩ ?_ ?_
  · refine VO_case 9 (fun c2 => ?_) (fun c2 => ?_)
    · replace hb1 := cnd_t c2 hb1
      refine goL ?_
      refine VO_b ?_
      refine VO_r (QR_call (w_l4Base u_1)) ?_
      refine goL ?_
      refine VO_case 15 (fun c3 => ?_) (fun c3 => ?_)
      · replace hb1 := cnd_t c3 hb1
        refine goL ?_
        refine VO_b ?_
        refine VO_k (Q_cb (w_l1Has l0 u_1)) ?_
        refine goL ?_
        cases hb1
        exact ⟨rfl, ⟨⟨rfl, rfl⟩, ⟨rfl, rfl⟩, ⟨rfl, rfl⟩, trivial⟩, ⟨[], rfl⟩, rfl⟩
      · replace hb1 := cnd_f c3 hb1
        refine goL ?_
        refine VO_case 20 (fun c4 => ?_) (fun c4 => ?_)
        · replace hb1 := cnd_t c4 hb1
          refine goL ?_
          refine VO_b ?_
          refine VO_k (Q_cb (w_l1Has l0 u_1)) ?_
          refine goL ?_
          cases hb1
          exact ⟨rfl, ⟨⟨rfl, rfl⟩, ⟨rfl, rfl⟩, ⟨rfl, rfl⟩, trivial⟩, ⟨[], rfl⟩, rfl⟩
        · replace hb1 := cnd_f c4 hb1
          refine goL ?_
          cases hb1
          exact ⟨rfl, ⟨⟨rfl, rfl⟩, ⟨rfl, rfl⟩, ⟨rfl, rfl⟩, trivial⟩, ⟨[], rfl⟩, rfl⟩
    · replace hb1 := cnd_f c2 hb1
      refine goL ?_
      refine VO_case 20 (fun c5 => ?_) (fun c5 => ?_)
      · replace hb1 := cnd_t c5 hb1
        refine goL ?_
        refine VO_b ?_
        refine VO_k (Q_cb (w_l1Has l0 u_1)) ?_
        refine goL ?_
        cases hb1
        exact ⟨rfl, ⟨⟨rfl, rfl⟩, ⟨rfl, rfl⟩, ⟨rfl, rfl⟩, trivial⟩, ⟨[], rfl⟩, rfl⟩
      · replace hb1 := cnd_f c5 hb1
        refine goL ?_
        cases hb1
        exact ⟨rfl, ⟨⟨rfl, rfl⟩, ⟨rfl, rfl⟩, ⟨rfl, rfl⟩, trivial⟩, ⟨[], rfl⟩, rfl⟩
  refine goL ?_
  refine V_cb (fun c6 => ?_) (fun c6 => ?_)
  · replace h := cnd_t c6 h
    refine goL ?_
    refine VO_l1t u_1 ?_
    obtain ⟨g7, h⟩ := gd_s h
    refine VO_ap g7 ?_
    refine goL ?_
    refine V_block ?_
    show V _ _ _ _ _
    refine V_bdc 1 2 (fun z11 => ?_)
    refine V_loop3 (fun (y10 : Nat) (y8 : List (List UInt8)) (v9 : Nat) => ⟨[(1, .sl 0 v9), (2, .ptr 1 0), (5, .d (.i .i64 (y10 : Int)))], [.own 9 1 v9 (eStrs y8), .box [.d (.i .i64 u_0), .d (.s u_1), .d (.sl 3 (eTypes u_2))], .dead 1], Tryz.f93.ntmps⟩) (fun y10 y8 v9 => b_l10Names_l1 rec_l10Names (u_2.drop y10) y8 = some r) (fun y10 y8 v9 => u_2.length - y10) 0 (l0 ++ [u_1]) (v0 + 1) ⟨rfl, ⟨⟨rfl, rfl⟩, ⟨rfl, rfl⟩, ⟨rfl, rfl⟩, trivial⟩, ⟨[], rfl⟩, rfl⟩ h ?_
    rintro y10 y8 v9 h
    refine goL ?_
    refine V_cb (fun c12 => ?_) (fun c12 => ?_)
    · have hky102 := kltN c12
      obtain ⟨x13, hx13, hdx13⟩ := drop_at hky102
      rw [hdx13, b_l10Names_l1.eq_2] at h
      obtain ⟨x13_0, x13_1, x13_2⟩ := x13
      refine V_skip ?_
      show V _ _ _ _ _
      refine V_seq (V_block ?_)
      refine goL ?_
      refine VO_r (QR_ixn y10 (gType hx13)) ?_
      refine goL ?_
      obtain ⟨x14, hx14, h⟩ := bnd_s h
      refine VO_cG [0] (hrec_l10Names (TType.mk x13_0 x13_1 x13_2) y8 v9 hx14) ?_
      rintro _ _ ⟨v15, rfl, rfl⟩
      show VO _ _ _ _ ⟨(_, .sl 0 v15) :: _, [.own 9 1 v15 (eStrs x14), .box [.d (.i .i64 u_0), .d (.s u_1), .d (.sl 3 (eTypes u_2))], .dead 1], _⟩ _
      refine goL ?_
      refine VO_r (QR_inc y10 (by omega)) ?_
      refine goL ?_
      exact ⟨(y10 + 1), x14, v15, h, by omega, ⟨rfl, ⟨⟨rfl, rfl⟩, ⟨rfl, rfl⟩, ⟨rfl, rfl⟩, trivial⟩, ⟨_, rfl⟩, rfl⟩⟩
    · have hky102 := kgeN c12
      rw [drop_end hky102, b_l10Names_l1.eq_1] at h
      refine V_exit ?_
      show V _ _ _ _ _
      refine goL ?_
      refine V_ret ?_
      replace h := Option.some.inj h
      subst h
      exact R_rG [.sl 0 v9] [.own 9 1 v9 (eStrs y8)] ⟨v9, rfl, rfl⟩
  · replace h := cnd_f c6 h
    refine V_skip ?_
    show V _ _ _ _ _
    refine goL ?_
    refine V_block ?_
    show V _ _ _ _ _
    refine V_bdc 1 2 (fun z19 => ?_)
    refine V_loop3 (fun (y18 : Nat) (y16 : List (List UInt8)) (v17 : Nat) => ⟨[(1, .sl 0 v17), (2, .ptr 1 0), (5, .d (.i .i64 (y18 : Int)))], [.own 9 1 v17 (eStrs y16), .box [.d (.i .i64 u_0), .d (.s u_1), .d (.sl 3 (eTypes u_2))]], Tryz.f93.ntmps⟩) (fun y18 y16 v17 => b_l10Names_l2 rec_l10Names (u_2.drop y18) y16 = some r) (fun y18 y16 v17 => u_2.length - y18) 0 l0 v0 ⟨rfl, ⟨⟨rfl, rfl⟩, ⟨rfl, rfl⟩, ⟨rfl, rfl⟩, trivial⟩, ⟨[], rfl⟩, rfl⟩ h ?_
    rintro y18 y16 v17 h
    refine goL ?_
    refine V_cb (fun c20 => ?_) (fun c20 => ?_)
    · have hky182 := kltN c20
      obtain ⟨x21, hx21, hdx21⟩ := drop_at hky182
      rw [hdx21, b_l10Names_l2.eq_2] at h
      obtain ⟨x21_0, x21_1, x21_2⟩ := x21
      refine V_skip ?_
      show V _ _ _ _ _
      refine V_seq (V_block ?_)
      refine goL ?_
      refine VO_r (QR_ixn y18 (gType hx21)) ?_
      refine goL ?_
      obtain ⟨x22, hx22, h⟩ := bnd_s h
      refine VO_cG [0] (hrec_l10Names (TType.mk x21_0 x21_1 x21_2) y16 v17 hx22) ?_
      rintro _ _ ⟨v23, rfl, rfl⟩
      show VO _ _ _ _ ⟨(_, .sl 0 v23) :: _, [.own 9 1 v23 (eStrs x22), .box [.d (.i .i64 u_0), .d (.s u_1), .d (.sl 3 (eTypes u_2))]], _⟩ _
      refine goL ?_
      refine VO_r (QR_inc y18 (by omega)) ?_
      refine goL ?_
      exact ⟨(y18 + 1), x22, v23, h, by omega, ⟨rfl, ⟨⟨rfl, rfl⟩, ⟨rfl, rfl⟩, ⟨rfl, rfl⟩, trivial⟩, ⟨_, rfl⟩, rfl⟩⟩
    · have hky182 := kgeN c20
      rw [drop_end hky182, b_l10Names_l2.eq_1] at h
      refine V_exit ?_
      show V _ _ _ _ _
      refine goL ?_
      refine V_ret ?_
      replace h := Option.some.inj h
      subst h
      exact R_rG [.sl 0 v17] [.own 9 1 v17 (eStrs y16)] ⟨v17, rfl, rfl⟩
def m_l10Names : Nat → TType → (List (List UInt8)) → Option (List (List UInt8))
  | 0, _, _ => none
  | n + 1, x0, x1 => b_l10Names (m_l10Names n) x0 x1
theorem s_l10Names : ∀ (n : Nat) (x0 : TType) (x1 : List (List UInt8)) (w0 : Nat) {r : List (List UInt8)}, m_l10Names n x0 x1 = some r → Go.Eng.Spec Tryz.prog 93 [.d (eType x0), .sl 0 w0] [.own 9 1 w0 (eStrs x1)] (fun sv Lo => ∃ v'0, sv = .sl 0 v'0 ∧ Lo = [.own 9 1 v'0 (eStrs r)]) := by
  intro n
  induction n with
  | zero => intro x0 x1 w0 r h; cases h
  | succ n ih => intro x0 x1 w0 r h; exact w_l10Names ih x0 x1 w0 h
/-! ### names in types, by hand -/
def lenS (l : List (List UInt8)) : Nat := l.length
def nmc (k : Int) (n : List UInt8) (l : List (List UInt8)) : Bool := cnd (k == 2) (cnd (!(b_iBuiltIn n)) (!(b_ContainsS l n)) (cnd (k == 4) (!(b_ContainsS l n)) false)) (cnd (k == 4) (!(b_ContainsS l n)) false)
def nm1 (k : Int) (n : List UInt8) (l : List (List UInt8)) : List (List UInt8) := cnd (nmc k n l) (l ++ [n]) l
mutual
def nmsT : TType → List (List UInt8) → List (List UInt8)
  | ⟨k, n, ts⟩, l => nmsTs ts (nm1 k n l)
def nmsTs : List TType → List (List UInt8) → List (List UInt8)
  | [], l => l
  | a :: ts, l => nmsTs ts (nmsT a l)
end
theorem nm1_len (k : Int) (n : List UInt8) (l : List (List UInt8)) : (nm1 k n l).length ≤ l.length + 1 := by
  unfold nm1
  cases nmc k n l <;> simp [cnd]
mutual
theorem nmsT_len : ∀ (t : TType) (l : List (List UInt8)), (nmsT t l).length ≤ l.length + tnd t
  | ⟨k, n, ts⟩, l => by
    have h1 := nm1_len k n l
    have h2 := nmsTs_len ts (nm1 k n l)
    simp only [nmsT, tnd]
    omega
theorem nmsTs_len : ∀ (ts : List TType) (l : List (List UInt8)), (nmsTs ts l).length ≤ l.length + tnds ts
  | [], l => by simp [nmsTs]
  | a :: ts, l => by
    have h1 := nmsT_len a l
    have h2 := nmsTs_len ts (nmsT a l)
    simp only [nmsTs, tnds]
    omega
end
theorem TypeNames1_eq (k : Int) (n : List UInt8) (ts : List TType) (l : List (List UInt8)) (h : l.length + 1 ≤ 4294967296) : b_TypeNames1 ⟨k, n, ts⟩ l = some (nm1 k n l) := by
  unfold b_TypeNames1
  simp only [lt_]
  show cnd (nmc k n l) _ _ = _
  unfold nm1
  cases nmc k n l with
  | true =>
    simp only [cnd_true]
    rw [gd_eq (by simpa using h)]
  | false => simp only [cnd_false]
theorem eachNames_l1_eq {rec : TType → List (List UInt8) → Option (List (List UInt8))} : ∀ (xs : List TType) (y : List (List UInt8)), (∀ x ∈ xs, ∀ l : List (List UInt8), lenS l + tnd x ≤ 4294967296 → rec x l = some (nmsT x l)) → lenS y + tnds xs ≤ 4294967296 → b_eachNames_l1 rec xs y = some (nmsTs xs y)
  | [], y, _, _ => rfl
  | x :: xs, y, h, hb => by
    simp only [tnds, lenS] at hb
    have := nmsT_len x y
    simp only [b_eachNames_l1, h x (by simp) y (by simp only [lenS]; omega), bnd, nmsTs]
    exact eachNames_l1_eq xs _ (fun z hz => h z (by simp [hz])) (by simp only [lenS]; omega)
theorem eachNames_eq : ∀ (n : Nat) (t : TType) (l : List (List UInt8)), tnd t ≤ n → lenS l + tnd t ≤ 4294967296 → m_eachNames n t l = some (nmsT t l)
  | 0, t, _, h, _ => by have := tnd_pos t; omega
  | n + 1, ⟨k, s, ts⟩, l, h, hb => by
    simp only [tnd, lenS] at h hb
    have := nm1_len k s l
    simp only [m_eachNames, b_eachNames]
    rw [TypeNames1_eq k s ts l (by omega)]
    simp only [bnd, nmsT]
    exact eachNames_l1_eq ts _ (fun x hx l hl => eachNames_eq n x l (by have := tnd_mem hx; omega) hl) (by simp only [lenS]; omega)
theorem l10Names_l1_eq {rec : TType → List (List UInt8) → Option (List (List UInt8))} : ∀ (xs : List TType) (y : List (List UInt8)), (∀ x ∈ xs, ∀ l : List (List UInt8), lenS l + tnd x ≤ 4294967296 → rec x l = some (nmsT x l)) → lenS y + tnds xs ≤ 4294967296 → b_l10Names_l1 rec xs y = some (nmsTs xs y)
  | [], y, _, _ => rfl
  | x :: xs, y, h, hb => by
    simp only [tnds, lenS] at hb
    have := nmsT_len x y
    simp only [b_l10Names_l1, h x (by simp) y (by simp only [lenS]; omega), bnd, nmsTs]
    exact l10Names_l1_eq xs _ (fun z hz => h z (by simp [hz])) (by simp only [lenS]; omega)
theorem l10Names_l2_eq {rec : TType → List (List UInt8) → Option (List (List UInt8))} : ∀ (xs : List TType) (y : List (List UInt8)), (∀ x ∈ xs, ∀ l : List (List UInt8), lenS l + tnd x ≤ 4294967296 → rec x l = some (nmsT x l)) → lenS y + tnds xs ≤ 4294967296 → b_l10Names_l2 rec xs y = some (nmsTs xs y)
  | [], y, _, _ => rfl
  | x :: xs, y, h, hb => by
    simp only [tnds, lenS] at hb
    have := nmsT_len x y
    simp only [b_l10Names_l2, h x (by simp) y (by simp only [lenS]; omega), bnd, nmsTs]
    exact l10Names_l2_eq xs _ (fun z hz => h z (by simp [hz])) (by simp only [lenS]; omega)
theorem l10Names_eq : ∀ (n : Nat) (t : TType) (l : List (List UInt8)), tnd t ≤ n → lenS l + tnd t ≤ 4294967296 → m_l10Names n t l = some (nmsT t l)
  | 0, t, _, h, _ => by have := tnd_pos t; omega
  | n + 1, ⟨k, s, ts⟩, l, h, hb => by
    simp only [tnd, lenS] at h hb
    have hl := nm1_len k s l
    have hr : ∀ x ∈ ts, ∀ l : List (List UInt8), lenS l + tnd x ≤ 4294967296 → m_l10Names n x l = some (nmsT x l) := fun x hx l hl => l10Names_eq n x l (by have := tnd_mem hx; omega) hl
    simp only [m_l10Names, b_l10Names, lt_, ← ContainsS_has, l4Base_eq]
    show cnd (nmc k s l) _ _ = _
    simp only [nmsT]
    unfold nm1 at hl ⊢
    cases hc : nmc k s l with
    | true =>
      rw [hc] at hl
      simp only [cnd_true] at hl ⊢
      rw [gd_eq (by simp only [List.length_cons, List.length_nil]; omega)]
      exact l10Names_l1_eq ts _ hr (by simp only [lenS]; omega)
    | false =>
      rw [hc] at hl
      simp only [cnd_false] at hl ⊢
      exact l10Names_l2_eq ts _ hr (by simp only [lenS]; omega)

theorem t_eachNames (x0 : TType) (x1 : List (List UInt8)) (w0 : Nat) (h : lenS x1 + tnd x0 ≤ 4294967296) : Go.Eng.Spec Tryz.prog 100 [.d (eType x0), .fn 101 [.ptr 0 0]] [.box [.sl 1 w0], .own 9 1 w0 (eStrs x1)] (fun sv Lo => ∃ v'1, sv = .tup [] ∧ Lo = [.box [.sl 1 v'1], .own 9 1 v'1 (eStrs (nmsT x0 x1))]) := s_eachNames (tnd x0) x0 x1 w0 (eachNames_eq _ _ _ (Nat.le_refl _) h)
theorem t_l10Names (x0 : TType) (x1 : List (List UInt8)) (w0 : Nat) (h : lenS x1 + tnd x0 ≤ 4294967296) : Go.Eng.Spec Tryz.prog 93 [.d (eType x0), .sl 0 w0] [.own 9 1 w0 (eStrs x1)] (fun sv Lo => ∃ v'0, sv = .sl 0 v'0 ∧ Lo = [.own 9 1 v'0 (eStrs (nmsT x0 x1))]) := s_l10Names (tnd x0) x0 x1 w0 (l10Names_eq _ _ _ (Nat.le_refl _) h)
def b_iTypeNames (a0 : TType) : Option (List (List UInt8)) :=
gd (lenS [] + tnd a0 ≤ 4294967296) (lt_ (nmsT a0 []) fun x1 =>
(some x1))
set_option maxHeartbeats 4000000 in
theorem w_iTypeNames (a0 : TType) {r : List (List UInt8)} (h : b_iTypeNames a0 = some r) : SpecP Tryz.prog 56 [.d (eType a0)] [.sl 1 (eStrs r)] := by
  obtain ⟨a0_0, a0_1, a0_2⟩ := a0
  unfold b_iTypeNames at h
  refine SpecP_intro Tryz.func56 rfl (by kernel_rfl) rfl fun A _ => ?_
  refine goL ?_
  refine VO_l0 ?_
  refine goL ?_
  refine VO_r (QR_fn) ?_
  obtain ⟨g2, h⟩ := gd_s h
  obtain ⟨x1, hx1, h⟩ := lt_x h
  have sx1 := t_eachNames (TType.mk a0_0 a0_1 a0_2) [] 0 g2
  rw [hx1] at sx1
  refine VO_cG [2, 1] sx1 ?_
  rintro _ _ ⟨v3, rfl, rfl⟩
  show VO _ _ _ _ ⟨(_, .tup []) :: _, [.box [.d (.i .i64 a0_0), .d (.s a0_1), .d (.sl 3 (eTypes a0_2))], .own 9 1 v3 (eStrs x1), .box [.sl 1 v3]], _⟩ _
  refine goL ?_
  refine V_freezeO 1 rfl rfl ?_
  refine V_ret ?_
  replace h := Option.some.inj h
  subst h
  exact R_rP
def b_sTypeNames (a0 : TType) : Option (List (List UInt8)) :=
gd (lenS [] + tnd a0 ≤ 4294967296) (lt_ (nmsT a0 []) fun x1 =>
(some x1))
set_option maxHeartbeats 4000000 in
theorem w_sTypeNames (a0 : TType) {r : List (List UInt8)} (h : b_sTypeNames a0 = some r) : SpecP Tryz.prog 48 [.d (eType a0)] [.sl 1 (eStrs r)] := by
  obtain ⟨a0_0, a0_1, a0_2⟩ := a0
  unfold b_sTypeNames at h
  refine SpecP_intro Tryz.func48 rfl (by kernel_rfl) rfl fun A _ => ?_
  refine goL ?_
  refine VO_l0 ?_
  obtain ⟨g2, h⟩ := gd_s h
  obtain ⟨x1, hx1, h⟩ := lt_x h
  have sx1 := t_l10Names (TType.mk a0_0 a0_1 a0_2) [] 0 g2
  rw [hx1] at sx1
  refine VO_cG [1] sx1 ?_
  rintro _ _ ⟨v3, rfl, rfl⟩
  show VO _ _ _ _ ⟨(_, .sl 1 v3) :: _, [.box [.d (.i .i64 a0_0), .d (.s a0_1), .d (.sl 3 (eTypes a0_2))], .own 9 1 v3 (eStrs x1)], _⟩ _
  refine goL ?_
  refine V_freezeO 1 rfl rfl ?_
  refine V_ret ?_
  replace h := Option.some.inj h
  subst h
  exact R_rP
end Go.Proofs.YtihihldpcgiibaaGreat
