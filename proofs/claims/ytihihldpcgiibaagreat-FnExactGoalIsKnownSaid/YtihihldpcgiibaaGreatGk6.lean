/- Gk6. Written by a program of mine (aw.py). -/
import Derived.Test.YtihihldpcgiibaaGreatFacts
import Derived.Test.YtihihldpcgiibaaGreatGk5
set_option linter.unusedVariables false
set_option linter.unusedSimpArgs false
set_option linter.unusedSectionVars false
namespace Go.Proofs.YtihihldpcgiibaaGreat
open Go Go.Eng
attribute [local irreducible] V VO VQ VY Quiet QR SpecP SpecO MSpec Rng PostP PostO PostG
def b_ProjIn1 (u : TType) (l1 : List TBound) : Option (List TBound) :=
lt_ ((cnd (u.kind == 3) ((decide ((u.args.length : Int) > 0))) (false))) fun b1 =>
(cnd b1 (
bnd (at? u.args 0) fun x4 =>
gd (tok x4) (lt_ (idT x4) fun x6 =>
bnd (b_hasGoal l1 (TBound.mk u.name x6)) fun x7 =>
(cnd (!x7) (
gd (l1.length + [(TBound.mk u.name x6)].length ≤ 4294967296) (
(some (l1 ++ [(TBound.mk u.name x6)])))) (
(some l1))))) (
(some l1)))
set_option maxHeartbeats 4000000 in
theorem w_ProjIn1 (u : TType) (l1 : List TBound) (v1 : Nat) {r : List TBound} (h : b_ProjIn1 u l1 = some r) : Go.Eng.Spec Tryz.prog 105 [.d (eType u), .ptr 0 0] [.box [.sl 1 v1], .own 41 4 v1 (eBounds l1)] (fun sv Lo => ∃ v'1, sv = .tup [] ∧ Lo = [.box [.sl 1 v'1], .own 41 4 v'1 (eBounds r)]) := by
  obtain ⟨u_0, u_1, u_2⟩ := u
  unfold b_ProjIn1 at h
  refine Spec_intro 2 Tryz.func105 rfl (by kernel_rfl) rfl rfl fun A _ => ?_
  refine goL ?_
  obtain ⟨b1, hb1, h⟩ := lt_x h
  refine VO_join ⟨[(1, .ptr 0 0), (2, .ptr 2 0), (12, .d (.b b1))], [.box [.sl 1 v1], .own 41 4 v1 (eBounds l1), .box [.d (.i .i64 u_0), .d (.s u_1), .d (.sl 3 (eTypes u_2))]], Tryz.f105.ntmps⟩ ?_ ?_
  · refine VO_case 7 (fun c2 => ?_) (fun c2 => ?_)
    · replace hb1 := cnd_t c2 hb1
      refine goL ?_
      cases hb1
      exact ⟨rfl, ⟨⟨rfl, rfl⟩, ⟨rfl, rfl⟩, ⟨rfl, rfl⟩, trivial⟩, ⟨[], rfl⟩, rfl⟩
    · replace hb1 := cnd_f c2 hb1
      refine goL ?_
      cases hb1
      exact ⟨rfl, ⟨⟨rfl, rfl⟩, ⟨rfl, rfl⟩, ⟨rfl, rfl⟩, trivial⟩, ⟨[], rfl⟩, rfl⟩
  refine goL ?_
  refine V_cb (fun c3 => ?_) (fun c3 => ?_)
  · replace h := cnd_t c3 h
    obtain ⟨x4, hx4, h⟩ := bnd_s h
    obtain ⟨hx40, hx4⟩ := at_s hx4
    obtain ⟨x4_0, x4_1, x4_2⟩ := x4
    obtain ⟨g5, h⟩ := gd_s h
    obtain ⟨x6, hx6, h⟩ := lt_x h
    obtain ⟨x6_0, x6_1, x6_2⟩ := x6
    have sx6 := t_iCopyType (TType.mk x4_0 x4_1 x4_2) g5
    rw [hx6] at sx6
    refine V_seq_drawTJ (P := Tryz.prog) Mix.h (.q 0 (.q 1 (.q 2 (.q 3 (.q 4 (.q 5 (.h 6 (.q 7 (.h 8 (.h 9 .nil .nil) .nil)) (.h 8 (.h 6 (.q 7 (.h 9 .nil .nil)) .nil) .nil)))))))) ⟨[(1, .ptr 0 0), (3, .ptr 4 0)], [.box [.sl 1 v1], .own 41 4 v1 (eBounds l1), .box [.d (.i .i64 u_0), .d (.s u_1), .d (.sl 3 (eTypes u_2))], .own 39 3 0 (eTypes x6_2), .box [.d (.s u_1), .d (.i .i64 x6_0), .d (.s x6_1), .sl 3 0]], Tryz.f105.ntmps⟩ (by kernel_rfl) ?_ ?_
    · refine goT ?_
      refine VT_q (VY_ri rfl (QR_ixi hx40 (gType hx4)) VY_e) ?_
      refine goT ?_
      refine VT_h (VY_co (sx6) VY_e) ?_ ?_
      · refine goT ?_
        refine VT_nil ?_
        exact R_pk 2 [0, 1, 2, 3, 4]
      refine goT ?_
      refine VT_h1 (VY_co (sx6) VY_e) ?_
      refine goT ?_
      refine VT_nil ?_
      exact R_pk 2 [0, 1, 2, 4, 3]
    refine goL ?_
    obtain ⟨x7, hx7, h⟩ := bnd_s h
    refine VO_k (Q_cb (w_hasGoal l1 (TBound.mk u_1 (TType.mk x6_0 x6_1 x6_2)) hx7)) ?_
    refine goL ?_
    refine V_cb (fun c8 => ?_) (fun c8 => ?_)
    · replace h := cnd_t c8 h
      refine goL ?_
      refine VO_l1t (TBound.mk u_1 (TType.mk x6_0 x6_1 x6_2)) ?_
      obtain ⟨g9, h⟩ := gd_s h
      refine VO_ap g9 ?_
      refine goL ?_
      replace h := Option.some.inj h
      subst h
      exact N_rG [] [.box [.sl 1 (v1 + 1)], .own 41 4 (v1 + 1) (eBounds (l1 ++ [(TBound.mk u_1 (TType.mk x6_0 x6_1 x6_2))]))] ⟨(v1 + 1), rfl, rfl⟩
    · replace h := cnd_f c8 h
      refine V_skip ?_
      show PostG _ _ _ _ _ _
      replace h := Option.some.inj h
      subst h
      exact N_rG [] [.box [.sl 1 v1], .own 41 4 v1 (eBounds l1)] ⟨v1, rfl, rfl⟩
  · replace h := cnd_f c3 h
    refine V_skip ?_
    show PostG _ _ _ _ _ _
    replace h := Option.some.inj h
    subst h
    exact N_rG [] [.box [.sl 1 v1], .own 41 4 v1 (eBounds l1)] ⟨v1, rfl, rfl⟩
def b_eachProj_l1 (rec_eachProj : TType → (List TBound) → Option (List TBound)) : List TType → (List TBound) → Option (List TBound)
  | [], y3 => (some y3)
  | x8 :: xs, y3 => bnd (rec_eachProj x8 y3) fun x9 =>
b_eachProj_l1 rec_eachProj xs x9
def b_eachProj (rec_eachProj : TType → (List TBound) → Option (List TBound)) (u : TType) (l1 : List TBound) : Option (List TBound) :=
bnd (b_ProjIn1 u l1) fun x1 =>
b_eachProj_l1 rec_eachProj u.args x1
set_option maxHeartbeats 4000000 in
theorem w_eachProj {rec_eachProj : TType → (List TBound) → Option (List TBound)} (hrec_eachProj : ∀ (x0 : TType) (x1 : List TBound) (w0 : Nat) {r : List TBound}, rec_eachProj x0 x1 = some r → Go.Eng.Spec Tryz.prog 100 [.d (eType x0), .fn 105 [.ptr 0 0]] [.box [.sl 1 w0], .own 41 4 w0 (eBounds x1)] (fun sv Lo => ∃ v'1, sv = .tup [] ∧ Lo = [.box [.sl 1 v'1], .own 41 4 v'1 (eBounds r)])) (u : TType) (l1 : List TBound) (v1 : Nat) {r : List TBound} (h : b_eachProj rec_eachProj u l1 = some r) : Go.Eng.Spec Tryz.prog 100 [.d (eType u), .fn 105 [.ptr 0 0]] [.box [.sl 1 v1], .own 41 4 v1 (eBounds l1)] (fun sv Lo => ∃ v'1, sv = .tup [] ∧ Lo = [.box [.sl 1 v'1], .own 41 4 v'1 (eBounds r)]) := by
  obtain ⟨u_0, u_1, u_2⟩ := u
  unfold b_eachProj at h
  refine Spec_intro 2 Tryz.func100 rfl (by kernel_rfl) rfl rfl fun A _ => ?_
  refine goL ?_
  obtain ⟨x1, hx1, h⟩ := bnd_s h
  refine VO_cG [0, 1] (w_ProjIn1 (TType.mk u_0 u_1 u_2) l1 v1 hx1) ?_
  rintro _ _ ⟨v2, rfl, rfl⟩
  show VO _ _ _ _ ⟨(_, .tup []) :: _, [.box [.sl 1 v2], .own 41 4 v2 (eBounds x1), .box [.d (.i .i64 u_0), .d (.s u_1), .d (.sl 3 (eTypes u_2))]], _⟩ _
  refine goL ?_
  refine V_block ?_
  show V _ _ _ _ _
  refine V_bd 10 (fun z6 => ?_)
  refine V_loop3 (fun (y5 : Nat) (y3 : List TBound) (v4 : Nat) => ⟨[(1, .fn 105 [.ptr 0 0]), (10, .d (.sl 3 (eTypes u_2))), (11, .d (.i .i64 (u_2.length : Int))), (12, .d (.i .i64 (y5 : Int)))], [.box [.sl 1 v4], .own 41 4 v4 (eBounds y3), .box [.d (.i .i64 u_0), .d (.s u_1), .d (.sl 3 (eTypes u_2))]], Tryz.f100.ntmps⟩) (fun y5 y3 v4 => b_eachProj_l1 rec_eachProj (u_2.drop y5) y3 = some r) (fun y5 y3 v4 => u_2.length - y5) 0 x1 v2 ⟨rfl, ⟨⟨rfl, rfl⟩, ⟨rfl, rfl⟩, ⟨rfl, rfl⟩, ⟨rfl, rfl⟩, trivial⟩, ⟨[], rfl⟩, rfl⟩ h ?_
  rintro y5 y3 v4 h
  refine goL ?_
  refine V_seq (V_cb (fun c7 => ?_) (fun c7 => ?_))
  · have hky52 := kltN c7
    obtain ⟨x8, hx8, hdx8⟩ := drop_at hky52
    rw [hdx8, b_eachProj_l1.eq_2] at h
    obtain ⟨x8_0, x8_1, x8_2⟩ := x8
    refine V_skip ?_
    show V _ _ _ _ _
    refine V_seq (V_block ?_)
    refine goL ?_
    refine VO_r (QR_ixn y5 (gType hx8)) ?_
    refine goL ?_
    obtain ⟨x9, hx9, h⟩ := bnd_s h
    refine VO_cG [0, 1] (hrec_eachProj (TType.mk x8_0 x8_1 x8_2) y3 v4 hx9) ?_
    rintro _ _ ⟨v10, rfl, rfl⟩
    show VO _ _ _ _ ⟨(_, .tup []) :: _, [.box [.sl 1 v10], .own 41 4 v10 (eBounds x9), .box [.d (.i .i64 u_0), .d (.s u_1), .d (.sl 3 (eTypes u_2))], .box [.d (.i .i64 x8_0), .d (.s x8_1), .d (.sl 3 (eTypes x8_2))]], _⟩ _
    refine goL ?_
    refine VO_r (QR_inc y5 (by omega)) ?_
    refine goL ?_
    exact ⟨(y5 + 1), x9, v10, h, by omega, ⟨rfl, ⟨⟨rfl, rfl⟩, ⟨rfl, rfl⟩, ⟨rfl, rfl⟩, ⟨rfl, rfl⟩, trivial⟩, ⟨_, rfl⟩, rfl⟩⟩
  · have hky52 := kgeN c7
    rw [drop_end hky52, b_eachProj_l1.eq_1] at h
    refine V_exit ?_
    show PostG _ _ _ _ _ _
    replace h := Option.some.inj h
    subst h
    exact N_rG [] [.box [.sl 1 v4], .own 41 4 v4 (eBounds y3)] ⟨v4, rfl, rfl⟩
def m_eachProj : Nat → TType → (List TBound) → Option (List TBound)
  | 0, _, _ => none
  | n + 1, x0, x1 => b_eachProj (m_eachProj n) x0 x1
theorem s_eachProj : ∀ (n : Nat) (x0 : TType) (x1 : List TBound) (w0 : Nat) {r : List TBound}, m_eachProj n x0 x1 = some r → Go.Eng.Spec Tryz.prog 100 [.d (eType x0), .fn 105 [.ptr 0 0]] [.box [.sl 1 w0], .own 41 4 w0 (eBounds x1)] (fun sv Lo => ∃ v'1, sv = .tup [] ∧ Lo = [.box [.sl 1 v'1], .own 41 4 v'1 (eBounds r)]) := by
  intro n
  induction n with
  | zero => intro x0 x1 w0 r h; cases h
  | succ n ih => intro x0 x1 w0 r h; exact w_eachProj ih x0 x1 w0 h
def b_l23Projs_l2 (rec_l23Projs : TType → (List TBound) → Option (List TBound)) : List TType → (List TBound) → Option (List TBound)
  | [], y16 => (some y16)
  | x21 :: xs, y16 => bnd (rec_l23Projs x21 y16) fun x22 =>
b_l23Projs_l2 rec_l23Projs xs x22
def b_l23Projs_l3 (rec_l23Projs : TType → (List TBound) → Option (List TBound)) : List TType → (List TBound) → Option (List TBound)
  | [], y24 => (some y24)
  | x29 :: xs, y24 => bnd (rec_l23Projs x29 y24) fun x30 =>
b_l23Projs_l3 rec_l23Projs xs x30
def b_l23Projs_l1 (rec_l23Projs : TType → (List TBound) → Option (List TBound)) (u : TType) (l0 : List TBound) (x6 : TType) : List TBound → Bool → Option (List TBound)
  | [], y7 => (cnd (!y7) (
gd (l0.length + [(TBound.mk u.name x6)].length ≤ 4294967296) (
b_l23Projs_l2 rec_l23Projs u.args (l0 ++ [(TBound.mk u.name x6)]))) (
b_l23Projs_l3 rec_l23Projs u.args l0))
  | x11 :: xs, y7 => lt_ ((cnd y7 (true) ((b_sEqualGoal x11 (TBound.mk u.name x6))))) fun b12 =>
b_l23Projs_l1 rec_l23Projs u l0 x6 xs b12
def b_l23Projs_l4 (rec_l23Projs : TType → (List TBound) → Option (List TBound)) : List TType → (List TBound) → Option (List TBound)
  | [], y32 => (some y32)
  | x37 :: xs, y32 => bnd (rec_l23Projs x37 y32) fun x38 =>
b_l23Projs_l4 rec_l23Projs xs x38
def b_l23Projs (rec_l23Projs : TType → (List TBound) → Option (List TBound)) (u : TType) (l0 : List TBound) : Option (List TBound) :=
lt_ ((cnd (u.kind == 3) ((decide ((u.args.length : Int) > 0))) (false))) fun b1 =>
(cnd b1 (
bnd (at? u.args 0) fun x4 =>
gd (tok x4) (lt_ (idT x4) fun x6 =>
b_l23Projs_l1 rec_l23Projs u l0 x6 l0 false)) (
b_l23Projs_l4 rec_l23Projs u.args l0))
set_option maxHeartbeats 4000000 in
theorem w_l23Projs {rec_l23Projs : TType → (List TBound) → Option (List TBound)} (hrec_l23Projs : ∀ (x0 : TType) (x1 : List TBound) (w0 : Nat) {r : List TBound}, rec_l23Projs x0 x1 = some r → Go.Eng.Spec Tryz.prog 94 [.d (eType x0), .sl 0 w0] [.arr 41 4 w0 (eBounds x1)] (fun sv Lo => ∃ v'0, sv = .sl 0 v'0 ∧ Lo = [.arr 41 4 v'0 (eBounds r)])) (u : TType) (l0 : List TBound) (v0 : Nat) {r : List TBound} (h : b_l23Projs rec_l23Projs u l0 = some r) : Go.Eng.Spec Tryz.prog 94 [.d (eType u), .sl 0 v0] [.arr 41 4 v0 (eBounds l0)] (fun sv Lo => ∃ v'0, sv = .sl 0 v'0 ∧ Lo = [.arr 41 4 v'0 (eBounds r)]) := by
  obtain ⟨u_0, u_1, u_2⟩ := u
  unfold b_l23Projs at h
  refine Spec_intro 1 Tryz.func94 rfl (by kernel_rfl) rfl rfl fun A _ => ?_
  refine goL ?_
  obtain ⟨b1, hb1, h⟩ := lt_x h
  refine VO_join ⟨[(1, .sl 0 v0), (2, .ptr 1 0), (17, .d (.b b1))], [.arr 41 4 v0 (eBounds l0), .box [.d (.i .i64 u_0), .d (.s u_1), .d (.sl 3 (eTypes u_2))]], Tryz.f94.ntmps⟩ ?_ ?_
  · refine VO_case 12 (fun c2 => ?_) (fun c2 => ?_)
    · replace hb1 := cnd_t c2 hb1
      refine goL ?_
      cases hb1
      exact ⟨rfl, ⟨⟨rfl, rfl⟩, ⟨rfl, rfl⟩, ⟨rfl, rfl⟩, trivial⟩, ⟨[], rfl⟩, rfl⟩
    · replace hb1 := cnd_f c2 hb1
      refine goL ?_
      cases hb1
      exact ⟨rfl, ⟨⟨rfl, rfl⟩, ⟨rfl, rfl⟩, ⟨rfl, rfl⟩, trivial⟩, ⟨[], rfl⟩, rfl⟩
  refine goL ?_
  refine V_cb (fun c3 => ?_) (fun c3 => ?_)
  · replace h := cnd_t c3 h
    obtain ⟨x4, hx4, h⟩ := bnd_s h
    obtain ⟨hx40, hx4⟩ := at_s hx4
    obtain ⟨x4_0, x4_1, x4_2⟩ := x4
    obtain ⟨g5, h⟩ := gd_s h
    obtain ⟨x6, hx6, h⟩ := lt_x h
    obtain ⟨x6_0, x6_1, x6_2⟩ := x6
    have sx6 := t_sCopyType (TType.mk x4_0 x4_1 x4_2) g5
    rw [hx6] at sx6
    refine V_seq_drawTJ (P := Tryz.prog) Mix.h (.q 0 (.q 1 (.q 2 (.q 3 (.q 4 (.q 5 (.h 6 (.q 7 (.h 8 (.h 9 .nil .nil) .nil)) (.h 8 (.h 6 (.q 7 (.h 9 .nil .nil)) .nil) .nil)))))))) ⟨[(1, .sl 0 v0), (2, .ptr 1 0), (5, .ptr 3 0)], [.arr 41 4 v0 (eBounds l0), .box [.d (.i .i64 u_0), .d (.s u_1), .d (.sl 3 (eTypes u_2))], .own 39 3 0 (eTypes x6_2), .box [.d (.s u_1), .d (.i .i64 x6_0), .d (.s x6_1), .sl 2 0]], Tryz.f94.ntmps⟩ (by kernel_rfl) ?_ ?_
    · refine goT ?_
      refine VT_q (VY_ri rfl (QR_ixi hx40 (gType hx4)) VY_e) ?_
      refine goT ?_
      refine VT_h (VY_co (sx6) VY_e) ?_ ?_
      · refine goT ?_
        refine VT_nil ?_
        exact R_pk 1 [0, 1, 2, 3]
      refine goT ?_
      refine VT_h1 (VY_co (sx6) VY_e) ?_
      refine goT ?_
      refine VT_nil ?_
      exact R_pk 1 [0, 1, 3, 2]
    refine goL ?_
    refine V_block ?_
    show V _ _ _ _ _
    refine V_bda 0 (fun z9 => ?_)
    refine V_loop2 (fun (y8 : Nat) (y7 : Bool) => ⟨[(1, .sl 0 v0), (2, .ptr 1 0), (5, .ptr 3 0), (6, .d (.b y7)), (7, .d (.i .i64 (y8 : Int)))], [.arr 41 4 v0 (eBounds l0), .box [.d (.i .i64 u_0), .d (.s u_1), .d (.sl 3 (eTypes u_2))], .own 39 3 0 (eTypes x6_2), .box [.d (.s u_1), .d (.i .i64 x6_0), .d (.s x6_1), .sl 2 0]], Tryz.f94.ntmps⟩) (fun y8 y7 => b_l23Projs_l1 rec_l23Projs (TType.mk u_0 u_1 u_2) l0 (TType.mk x6_0 x6_1 x6_2) (l0.drop y8) y7 = some r) (fun y8 y7 => l0.length - y8) 0 false ⟨rfl, ⟨⟨rfl, rfl⟩, ⟨rfl, rfl⟩, ⟨rfl, rfl⟩, ⟨rfl, rfl⟩, ⟨rfl, rfl⟩, trivial⟩, ⟨[], rfl⟩, rfl⟩ h ?_
    rintro y8 y7 h
    refine goL ?_
    refine V_cb (fun c10 => ?_) (fun c10 => ?_)
    · have hky82 := kltN c10
      obtain ⟨x11, hx11, hdx11⟩ := drop_at hky82
      rw [hdx11, b_l23Projs_l1.eq_2] at h
      obtain ⟨x11_0, ⟨x11_1_0, x11_1_1, x11_1_2⟩⟩ := x11
      refine V_skip ?_
      show V _ _ _ _ _
      refine V_seq (V_block ?_)
      obtain ⟨b12, hb12, h⟩ := lt_x h
      refine V_drawJ (P := Tryz.prog) Mix.h ⟨[(1, .sl 0 v0), (2, .ptr 1 0), (5, .ptr 3 0), (7, .d (.i .i64 (y8 : Int))), (6, .d (.b b12))], [.arr 41 4 v0 (eBounds l0), .box [.d (.i .i64 u_0), .d (.s u_1), .d (.sl 3 (eTypes u_2))], .own 39 3 0 (eTypes x6_2), .box [.d (.s u_1), .d (.i .i64 x6_0), .d (.s x6_1), .sl 2 0]], Tryz.f94.ntmps⟩ (by kernel_rfl) ?_ ?_
      · refine goL ?_
        refine VQ_case 33 (fun c13 => ?_) (fun c13 => ?_)
        · replace hb12 := cnd_t c13 hb12
          refine goL ?_
          cases hb12
          exact ⟨rfl, ⟨⟨rfl, rfl⟩, ⟨rfl, rfl⟩, ⟨rfl, rfl⟩, ⟨rfl, rfl⟩, ⟨rfl, rfl⟩, trivial⟩, ⟨[], rfl⟩, rfl⟩
        · replace hb12 := cnd_f c13 hb12
          refine goL ?_
          refine VQ_kg (Q_ixa y8 (List.getElem?_eq_some_iff.1 hx11).1) ?_
          refine VQ_kg (Q_lda hx11) ?_
          refine goL ?_
          refine VQ_kg (Q_cb (w_sEqualGoal (TBound.mk x11_0 (TType.mk x11_1_0 x11_1_1 x11_1_2)) (TBound.mk u_1 (TType.mk x6_0 x6_1 x6_2)))) ?_
          refine goL ?_
          cases hb12
          exact ⟨rfl, ⟨⟨rfl, rfl⟩, ⟨rfl, rfl⟩, ⟨rfl, rfl⟩, ⟨rfl, rfl⟩, ⟨rfl, rfl⟩, trivial⟩, ⟨[], rfl⟩, rfl⟩
      refine goL ?_
      refine VO_r (QR_inc y8 (by omega)) ?_
      refine goL ?_
      exact ⟨(y8 + 1), b12, h, by omega, ⟨rfl, ⟨⟨rfl, rfl⟩, ⟨rfl, rfl⟩, ⟨rfl, rfl⟩, ⟨rfl, rfl⟩, ⟨rfl, rfl⟩, trivial⟩, ⟨_, rfl⟩, rfl⟩⟩
    · have hky82 := kgeN c10
      rw [drop_end hky82, b_l23Projs_l1.eq_1] at h
      refine V_exit ?_
      show V _ _ _ _ _
      refine goL ?_
      refine V_cb (fun c14 => ?_) (fun c14 => ?_)
      · replace h := cnd_t c14 h
        refine goL ?_
        refine VO_freezeO 2 rfl rfl ?_
        refine VO_la1 (u := (.st [.s u_1, .st [.i .i64 x6_0, .s x6_1, .sl 3 (eTypes x6_2)]])) ?_
        obtain ⟨g15, h⟩ := gd_s h
        refine VO_apa g15 ?_
        refine goL ?_
        refine V_block ?_
        show V _ _ _ _ _
        refine V_bdc 1 2 (fun z19 => ?_)
        refine V_loop3 (fun (y18 : Nat) (y16 : List TBound) (v17 : Nat) => ⟨[(1, .sl 0 v17), (2, .ptr 1 0), (8, .d (.i .i64 (y18 : Int)))], [.arr 41 4 v17 (eBounds y16), .box [.d (.i .i64 u_0), .d (.s u_1), .d (.sl 3 (eTypes u_2))], .frz 39 3 0 (eTypes x6_2), .box [.d (.s u_1), .d (.i .i64 x6_0), .d (.s x6_1), .sl 2 0], .arr 41 4 0 (eBounds [(TBound.mk u_1 (TType.mk x6_0 x6_1 x6_2))])], Tryz.f94.ntmps⟩) (fun y18 y16 v17 => b_l23Projs_l2 rec_l23Projs (u_2.drop y18) y16 = some r) (fun y18 y16 v17 => u_2.length - y18) 0 (l0 ++ [(TBound.mk u_1 (TType.mk x6_0 x6_1 x6_2))]) (v0 + 1) ⟨rfl, ⟨⟨rfl, rfl⟩, ⟨rfl, rfl⟩, ⟨rfl, rfl⟩, trivial⟩, ⟨[], rfl⟩, rfl⟩ h ?_
        rintro y18 y16 v17 h
        refine goL ?_
        refine V_cb (fun c20 => ?_) (fun c20 => ?_)
        · have hky182 := kltN c20
          obtain ⟨x21, hx21, hdx21⟩ := drop_at hky182
          rw [hdx21, b_l23Projs_l2.eq_2] at h
          obtain ⟨x21_0, x21_1, x21_2⟩ := x21
          refine V_skip ?_
          show V _ _ _ _ _
          refine V_seq (V_block ?_)
          refine goL ?_
          refine VO_r (QR_ixn y18 (gType hx21)) ?_
          refine goL ?_
          obtain ⟨x22, hx22, h⟩ := bnd_s h
          refine VO_cG [0] (hrec_l23Projs (TType.mk x21_0 x21_1 x21_2) y16 v17 hx22) ?_
          rintro _ _ ⟨v23, rfl, rfl⟩
          show VO _ _ _ _ ⟨(_, .sl 0 v23) :: _, [.arr 41 4 v23 (eBounds x22), .box [.d (.i .i64 u_0), .d (.s u_1), .d (.sl 3 (eTypes u_2))], .frz 39 3 0 (eTypes x6_2), .box [.d (.s u_1), .d (.i .i64 x6_0), .d (.s x6_1), .sl 2 0], .arr 41 4 0 (eBounds [(TBound.mk u_1 (TType.mk x6_0 x6_1 x6_2))])], _⟩ _
          refine goL ?_
          refine VO_r (QR_inc y18 (by omega)) ?_
          refine goL ?_
          exact ⟨(y18 + 1), x22, v23, h, by omega, ⟨rfl, ⟨⟨rfl, rfl⟩, ⟨rfl, rfl⟩, ⟨rfl, rfl⟩, trivial⟩, ⟨_, rfl⟩, rfl⟩⟩
        · have hky182 := kgeN c20
          rw [drop_end hky182, b_l23Projs_l2.eq_1] at h
          refine V_exit ?_
          show V _ _ _ _ _
          refine goL ?_
          refine V_ret ?_
          replace h := Option.some.inj h
          subst h
          exact R_rG [.sl 0 v17] [.arr 41 4 v17 (eBounds y16)] ⟨v17, rfl, rfl⟩
      · replace h := cnd_f c14 h
        refine V_skip ?_
        show V _ _ _ _ _
        refine goL ?_
        refine V_block ?_
        show V _ _ _ _ _
        refine V_bdc 1 2 (fun z27 => ?_)
        refine V_loop3 (fun (y26 : Nat) (y24 : List TBound) (v25 : Nat) => ⟨[(1, .sl 0 v25), (2, .ptr 1 0), (8, .d (.i .i64 (y26 : Int)))], [.arr 41 4 v25 (eBounds y24), .box [.d (.i .i64 u_0), .d (.s u_1), .d (.sl 3 (eTypes u_2))], .own 39 3 0 (eTypes x6_2), .box [.d (.s u_1), .d (.i .i64 x6_0), .d (.s x6_1), .sl 2 0]], Tryz.f94.ntmps⟩) (fun y26 y24 v25 => b_l23Projs_l3 rec_l23Projs (u_2.drop y26) y24 = some r) (fun y26 y24 v25 => u_2.length - y26) 0 l0 v0 ⟨rfl, ⟨⟨rfl, rfl⟩, ⟨rfl, rfl⟩, ⟨rfl, rfl⟩, trivial⟩, ⟨[], rfl⟩, rfl⟩ h ?_
        rintro y26 y24 v25 h
        refine goL ?_
        refine V_cb (fun c28 => ?_) (fun c28 => ?_)
        · have hky262 := kltN c28
          obtain ⟨x29, hx29, hdx29⟩ := drop_at hky262
          rw [hdx29, b_l23Projs_l3.eq_2] at h
          obtain ⟨x29_0, x29_1, x29_2⟩ := x29
          refine V_skip ?_
          show V _ _ _ _ _
          refine V_seq (V_block ?_)
          refine goL ?_
          refine VO_r (QR_ixn y26 (gType hx29)) ?_
          refine goL ?_
          obtain ⟨x30, hx30, h⟩ := bnd_s h
          refine VO_cG [0] (hrec_l23Projs (TType.mk x29_0 x29_1 x29_2) y24 v25 hx30) ?_
          rintro _ _ ⟨v31, rfl, rfl⟩
          show VO _ _ _ _ ⟨(_, .sl 0 v31) :: _, [.arr 41 4 v31 (eBounds x30), .box [.d (.i .i64 u_0), .d (.s u_1), .d (.sl 3 (eTypes u_2))], .own 39 3 0 (eTypes x6_2), .box [.d (.s u_1), .d (.i .i64 x6_0), .d (.s x6_1), .sl 2 0]], _⟩ _
          refine goL ?_
          refine VO_r (QR_inc y26 (by omega)) ?_
          refine goL ?_
          exact ⟨(y26 + 1), x30, v31, h, by omega, ⟨rfl, ⟨⟨rfl, rfl⟩, ⟨rfl, rfl⟩, ⟨rfl, rfl⟩, trivial⟩, ⟨_, rfl⟩, rfl⟩⟩
        · have hky262 := kgeN c28
          rw [drop_end hky262, b_l23Projs_l3.eq_1] at h
          refine V_exit ?_
          show V _ _ _ _ _
          refine goL ?_
          refine V_ret ?_
          replace h := Option.some.inj h
          subst h
          exact R_rG [.sl 0 v25] [.arr 41 4 v25 (eBounds y24)] ⟨v25, rfl, rfl⟩
  · replace h := cnd_f c3 h
    refine V_skip ?_
    show V _ _ _ _ _
    refine goL ?_
    refine V_block ?_
    show V _ _ _ _ _
    refine V_bdc 1 2 (fun z35 => ?_)
    refine V_loop3 (fun (y34 : Nat) (y32 : List TBound) (v33 : Nat) => ⟨[(1, .sl 0 v33), (2, .ptr 1 0), (8, .d (.i .i64 (y34 : Int)))], [.arr 41 4 v33 (eBounds y32), .box [.d (.i .i64 u_0), .d (.s u_1), .d (.sl 3 (eTypes u_2))]], Tryz.f94.ntmps⟩) (fun y34 y32 v33 => b_l23Projs_l4 rec_l23Projs (u_2.drop y34) y32 = some r) (fun y34 y32 v33 => u_2.length - y34) 0 l0 v0 ⟨rfl, ⟨⟨rfl, rfl⟩, ⟨rfl, rfl⟩, ⟨rfl, rfl⟩, trivial⟩, ⟨[], rfl⟩, rfl⟩ h ?_
    rintro y34 y32 v33 h
    refine goL ?_
    refine V_cb (fun c36 => ?_) (fun c36 => ?_)
    · have hky342 := kltN c36
      obtain ⟨x37, hx37, hdx37⟩ := drop_at hky342
      rw [hdx37, b_l23Projs_l4.eq_2] at h
      obtain ⟨x37_0, x37_1, x37_2⟩ := x37
      refine V_skip ?_
      show V _ _ _ _ _
      refine V_seq (V_block ?_)
      refine goL ?_
      refine VO_r (QR_ixn y34 (gType hx37)) ?_
      refine goL ?_
      obtain ⟨x38, hx38, h⟩ := bnd_s h
      refine VO_cG [0] (hrec_l23Projs (TType.mk x37_0 x37_1 x37_2) y32 v33 hx38) ?_
      rintro _ _ ⟨v39, rfl, rfl⟩
      show VO _ _ _ _ ⟨(_, .sl 0 v39) :: _, [.arr 41 4 v39 (eBounds x38), .box [.d (.i .i64 u_0), .d (.s u_1), .d (.sl 3 (eTypes u_2))]], _⟩ _
      refine goL ?_
      refine VO_r (QR_inc y34 (by omega)) ?_
      refine goL ?_
      exact ⟨(y34 + 1), x38, v39, h, by omega, ⟨rfl, ⟨⟨rfl, rfl⟩, ⟨rfl, rfl⟩, ⟨rfl, rfl⟩, trivial⟩, ⟨_, rfl⟩, rfl⟩⟩
    · have hky342 := kgeN c36
      rw [drop_end hky342, b_l23Projs_l4.eq_1] at h
      refine V_exit ?_
      show V _ _ _ _ _
      refine goL ?_
      refine V_ret ?_
      replace h := Option.some.inj h
      subst h
      exact R_rG [.sl 0 v33] [.arr 41 4 v33 (eBounds y32)] ⟨v33, rfl, rfl⟩
def m_l23Projs : Nat → TType → (List TBound) → Option (List TBound)
  | 0, _, _ => none
  | n + 1, x0, x1 => b_l23Projs (m_l23Projs n) x0 x1
theorem s_l23Projs : ∀ (n : Nat) (x0 : TType) (x1 : List TBound) (w0 : Nat) {r : List TBound}, m_l23Projs n x0 x1 = some r → Go.Eng.Spec Tryz.prog 94 [.d (eType x0), .sl 0 w0] [.arr 41 4 w0 (eBounds x1)] (fun sv Lo => ∃ v'0, sv = .sl 0 v'0 ∧ Lo = [.arr 41 4 v'0 (eBounds r)]) := by
  intro n
  induction n with
  | zero => intro x0 x1 w0 r h; cases h
  | succ n ih => intro x0 x1 w0 r h; exact w_l23Projs ih x0 x1 w0 h
/-! ### projections in types, by hand -/
def lenB (l : List TBound) : Nat := l.length
def geq (a b : TBound) : Bool := (a.trait == b.trait) && teq a.type_ b.type_
theorem iEqualGoal_eq (a b : TBound) : b_iEqualGoal a b = geq a b := by
  unfold b_iEqualGoal geq
  cases a.trait == b.trait <;> rfl
theorem sEqualGoal_eq (a b : TBound) : b_sEqualGoal a b = geq a b := by
  unfold b_sEqualGoal geq
  cases a.trait == b.trait <;> rfl
theorem IndexFuncB_l1_eq {p : TBound → Option Bool} {q : TBound → Bool} : ∀ (xs : List TBound) (k : Nat), (∀ x ∈ xs, p x = some (q x)) → ∃ i, b_IndexFuncB_l1 p xs k = some i ∧ decide (i ≥ 0) = xs.any q
  | [], k, _ => ⟨-1, rfl, rfl⟩
  | x :: xs, k, h => by
    simp only [b_IndexFuncB_l1, h x (by simp), bnd]
    cases hq : q x with
    | true => exact ⟨_, rfl, by simp [hq]⟩
    | false =>
      obtain ⟨i, h1, h2⟩ := IndexFuncB_l1_eq xs (k + 1) (fun z hz => h z (by simp [hz]))
      exact ⟨i, h1, by rw [h2]; simp [hq]⟩
theorem ContainsFuncB_eq {p : TBound → Option Bool} {q : TBound → Bool} (xs : List TBound) (h : ∀ x ∈ xs, p x = some (q x)) : b_ContainsFuncB xs p = some (xs.any q) := by
  obtain ⟨i, h1, h2⟩ := IndexFuncB_l1_eq xs 0 h
  unfold b_ContainsFuncB b_IndexFuncB
  rw [h1, ← h2]
  rfl
theorem hasGoal_eq (l : List TBound) (g : TBound) : b_hasGoal l g = some (l.any fun z => geq z g) := by
  unfold b_hasGoal
  rw [ContainsFuncB_eq (q := fun z => geq z g) l (fun x _ => by simp only [b_hasGoal1, iEqualGoal_eq])]
  rfl
def prj1 (k : Int) (n : List UInt8) : List TType → List TBound → List TBound
  | [], l => l
  | a :: _, l => cnd (k == 3) (cnd (l.any fun z => geq z ⟨n, a⟩) l (l ++ [⟨n, a⟩])) l
mutual
def prjT : TType → List TBound → List TBound
  | ⟨k, n, ts⟩, l => prjTs ts (prj1 k n ts l)
def prjTs : List TType → List TBound → List TBound
  | [], l => l
  | a :: ts, l => prjTs ts (prjT a l)
end
theorem prj1_len (k : Int) (n : List UInt8) (ts : List TType) (l : List TBound) : (prj1 k n ts l).length ≤ l.length + 1 := by
  cases ts with
  | nil => simp [prj1]
  | cons a ts =>
    simp only [prj1]
    cases k == 3
    · simp [cnd]
    · cases (l.any fun z => geq z ⟨n, a⟩) <;> simp [cnd]
mutual
theorem prjT_len : ∀ (t : TType) (l : List TBound), (prjT t l).length ≤ l.length + tnd t
  | ⟨k, n, ts⟩, l => by
    have h1 := prj1_len k n ts l
    have h2 := prjTs_len ts (prj1 k n ts l)
    simp only [prjT, tnd]
    omega
theorem prjTs_len : ∀ (ts : List TType) (l : List TBound), (prjTs ts l).length ≤ l.length + tnds ts
  | [], l => by simp [prjTs]
  | a :: ts, l => by
    have h1 := prjT_len a l
    have h2 := prjTs_len ts (prjT a l)
    simp only [prjTs, tnds]
    omega
end
theorem at_head {α : Type} (a : α) (l : List α) : at? (a :: l) 0 = some a := by simp [at?]
theorem ProjIn1_eq (k : Int) (n : List UInt8) (ts : List TType) (l : List TBound) (h : l.length + 1 ≤ 4294967296) (ht : tall ts) : b_ProjIn1 ⟨k, n, ts⟩ l = some (prj1 k n ts l) := by
  unfold b_ProjIn1
  simp only [lt_]
  cases ts with
  | nil =>
    have e : decide ((([] : List TType).length : Int) > 0) = false := rfl
    rw [e]
    cases k == 3 <;> rfl
  | cons a ts =>
    have e : decide (((a :: ts).length : Int) > 0) = true := by simp
    rw [e]
    simp only [prj1]
    cases k == 3 with
    | false => rfl
    | true =>
      simp only [cnd_true, at_head, bnd]
      rw [gd_eq (tall_iff.1 ht a (by simp))]
      simp only [idT, hasGoal_eq]
      cases (l.any fun z => geq z ⟨n, a⟩) with
      | true => simp only [Bool.not_true, cnd_false, cnd_true]
      | false =>
        simp only [Bool.not_false, cnd_false, cnd_true]
        rw [gd_eq (by simpa using h)]
theorem eachProj_l1_eq {rec : TType → List TBound → Option (List TBound)} : ∀ (xs : List TType) (y : List TBound), (∀ x ∈ xs, ∀ l : List TBound, lenB l + tnd x ≤ 4294967296 → rec x l = some (prjT x l)) → lenB y + tnds xs ≤ 4294967296 → b_eachProj_l1 rec xs y = some (prjTs xs y)
  | [], y, _, _ => rfl
  | x :: xs, y, h, hb => by
    simp only [tnds, lenB] at hb
    have := prjT_len x y
    simp only [b_eachProj_l1, h x (by simp) y (by simp only [lenB]; omega), bnd, prjTs]
    exact eachProj_l1_eq xs _ (fun z hz => h z (by simp [hz])) (by simp only [lenB]; omega)
theorem eachProj_eq : ∀ (n : Nat) (t : TType) (l : List TBound), tnd t ≤ n → lenB l + tnd t ≤ 4294967296 ∧ tok t → m_eachProj n t l = some (prjT t l)
  | 0, t, _, h, _ => by have := tnd_pos t; omega
  | n + 1, ⟨k, s, ts⟩, l, h, hb => by
    obtain ⟨hb, ht⟩ := hb
    simp only [tok] at ht
    simp only [tnd, lenB] at h hb
    have := prj1_len k s ts l
    simp only [m_eachProj, b_eachProj]
    rw [ProjIn1_eq k s ts l (by omega) ht.2]
    simp only [bnd, prjT]
    exact eachProj_l1_eq ts _ (fun x hx l hl => eachProj_eq n x l (by have := tnd_mem hx; omega) ⟨hl, tall_iff.1 ht.2 x hx⟩) (by simp only [lenB]; omega)
theorem l23Projs_l2_eq {rec : TType → List TBound → Option (List TBound)} : ∀ (xs : List TType) (y : List TBound), (∀ x ∈ xs, ∀ l : List TBound, lenB l + tnd x ≤ 4294967296 → rec x l = some (prjT x l)) → lenB y + tnds xs ≤ 4294967296 → b_l23Projs_l2 rec xs y = some (prjTs xs y)
  | [], y, _, _ => rfl
  | x :: xs, y, h, hb => by
    simp only [tnds, lenB] at hb
    have := prjT_len x y
    simp only [b_l23Projs_l2, h x (by simp) y (by simp only [lenB]; omega), bnd, prjTs]
    exact l23Projs_l2_eq xs _ (fun z hz => h z (by simp [hz])) (by simp only [lenB]; omega)
theorem l23Projs_l3_eq {rec : TType → List TBound → Option (List TBound)} : ∀ (xs : List TType) (y : List TBound), (∀ x ∈ xs, ∀ l : List TBound, lenB l + tnd x ≤ 4294967296 → rec x l = some (prjT x l)) → lenB y + tnds xs ≤ 4294967296 → b_l23Projs_l3 rec xs y = some (prjTs xs y)
  | [], y, _, _ => rfl
  | x :: xs, y, h, hb => by
    simp only [tnds, lenB] at hb
    have := prjT_len x y
    simp only [b_l23Projs_l3, h x (by simp) y (by simp only [lenB]; omega), bnd, prjTs]
    exact l23Projs_l3_eq xs _ (fun z hz => h z (by simp [hz])) (by simp only [lenB]; omega)
theorem l23Projs_l4_eq {rec : TType → List TBound → Option (List TBound)} : ∀ (xs : List TType) (y : List TBound), (∀ x ∈ xs, ∀ l : List TBound, lenB l + tnd x ≤ 4294967296 → rec x l = some (prjT x l)) → lenB y + tnds xs ≤ 4294967296 → b_l23Projs_l4 rec xs y = some (prjTs xs y)
  | [], y, _, _ => rfl
  | x :: xs, y, h, hb => by
    simp only [tnds, lenB] at hb
    have := prjT_len x y
    simp only [b_l23Projs_l4, h x (by simp) y (by simp only [lenB]; omega), bnd, prjTs]
    exact l23Projs_l4_eq xs _ (fun z hz => h z (by simp [hz])) (by simp only [lenB]; omega)
theorem l23Projs_l1_eq {rec : TType → List TBound → Option (List TBound)} (u : TType) (l0 : List TBound) (b : TType) : ∀ (xs : List TBound) (y : Bool), b_l23Projs_l1 rec u l0 b xs y = b_l23Projs_l1 rec u l0 b [] (y || xs.any fun z => geq z ⟨u.name, b⟩)
  | [], y => by simp
  | x :: xs, y => by
    have ih := l23Projs_l1_eq (rec := rec) u l0 b xs
    rw [b_l23Projs_l1.eq_2]
    simp only [lt_, sEqualGoal_eq]
    rw [ih]
    cases y with
    | true => simp [cnd]
    | false => simp [cnd]
theorem l23Projs_eq : ∀ (n : Nat) (t : TType) (l : List TBound), tnd t ≤ n → lenB l + tnd t ≤ 4294967296 ∧ tok t → m_l23Projs n t l = some (prjT t l)
  | 0, t, _, h, _ => by have := tnd_pos t; omega
  | n + 1, ⟨k, s, ts⟩, l, h, hb => by
    obtain ⟨hb, ht⟩ := hb
    simp only [tok] at ht
    simp only [tnd, lenB] at h hb
    have hlen := prj1_len k s ts l
    have hr : ∀ x ∈ ts, ∀ l : List TBound, lenB l + tnd x ≤ 4294967296 → m_l23Projs n x l = some (prjT x l) := fun x hx l hl => l23Projs_eq n x l (by have := tnd_mem hx; omega) ⟨hl, tall_iff.1 ht.2 x hx⟩
    simp only [m_l23Projs, b_l23Projs, lt_, prjT]
    cases ts with
    | nil =>
      have e : decide ((([] : List TType).length : Int) > 0) = false := rfl
      rw [e]
      cases k == 3 <;> rfl
    | cons a ts =>
      have e : decide (((a :: ts).length : Int) > 0) = true := by simp
      rw [e]
      simp only [prj1] at hlen ⊢
      cases hk : k == 3 with
      | false =>
        simp only [cnd_false]
        exact l23Projs_l4_eq _ _ hr (by simp only [lenB]; omega)
      | true =>
        rw [hk] at hlen
        simp only [cnd_true, at_head, bnd] at hlen ⊢
        rw [gd_eq (tall_iff.1 ht.2 a (by simp))]
        simp only [idT]
        rw [l23Projs_l1_eq]
        simp only [Bool.false_or, b_l23Projs_l1]
        cases hc : (l.any fun z => geq z ⟨s, a⟩) with
        | true =>
          simp only [Bool.not_true, cnd_false, cnd_true]
          exact l23Projs_l3_eq _ _ hr (by simp only [lenB]; omega)
        | false =>
          rw [hc] at hlen
          simp only [Bool.not_false, cnd_false, cnd_true] at hlen ⊢
          rw [gd_eq (by simp only [List.length_cons, List.length_nil]; omega)]
          exact l23Projs_l2_eq _ _ hr (by simp only [lenB]; omega)

theorem t_eachProj (x0 : TType) (x1 : List TBound) (w0 : Nat) (h : lenB x1 + tnd x0 ≤ 4294967296 ∧ tok x0) : Go.Eng.Spec Tryz.prog 100 [.d (eType x0), .fn 105 [.ptr 0 0]] [.box [.sl 1 w0], .own 41 4 w0 (eBounds x1)] (fun sv Lo => ∃ v'1, sv = .tup [] ∧ Lo = [.box [.sl 1 v'1], .own 41 4 v'1 (eBounds (prjT x0 x1))]) := s_eachProj (tnd x0) x0 x1 w0 (eachProj_eq _ _ _ (Nat.le_refl _) h)
theorem t_l23Projs (x0 : TType) (x1 : List TBound) (w0 : Nat) (h : lenB x1 + tnd x0 ≤ 4294967296 ∧ tok x0) : Go.Eng.Spec Tryz.prog 94 [.d (eType x0), .sl 0 w0] [.arr 41 4 w0 (eBounds x1)] (fun sv Lo => ∃ v'0, sv = .sl 0 v'0 ∧ Lo = [.arr 41 4 v'0 (eBounds (prjT x0 x1))]) := s_l23Projs (tnd x0) x0 x1 w0 (l23Projs_eq _ _ _ (Nat.le_refl _) h)
def b_iProjIn (a0 : TType) : Option (List TBound) :=
gd (lenB [] + tnd a0 ≤ 4294967296 ∧ tok a0) (lt_ (prjT a0 []) fun x1 =>
(some x1))
set_option maxHeartbeats 4000000 in
theorem w_iProjIn (a0 : TType) {r : List TBound} (h : b_iProjIn a0 = some r) : SpecP Tryz.prog 59 [.d (eType a0)] [.sl 4 (eBounds r)] := by
  obtain ⟨a0_0, a0_1, a0_2⟩ := a0
  unfold b_iProjIn at h
  refine SpecP_intro Tryz.func59 rfl (by kernel_rfl) rfl fun A _ => ?_
  refine goL ?_
  refine VO_l0 ?_
  refine goL ?_
  refine VO_r (QR_fn) ?_
  obtain ⟨g2, h⟩ := gd_s h
  obtain ⟨x1, hx1, h⟩ := lt_x h
  have sx1 := t_eachProj (TType.mk a0_0 a0_1 a0_2) [] 0 g2
  rw [hx1] at sx1
  refine VO_cG [2, 1] sx1 ?_
  rintro _ _ ⟨v3, rfl, rfl⟩
  show VO _ _ _ _ ⟨(_, .tup []) :: _, [.box [.d (.i .i64 a0_0), .d (.s a0_1), .d (.sl 3 (eTypes a0_2))], .own 41 4 v3 (eBounds x1), .box [.sl 1 v3]], _⟩ _
  refine goL ?_
  refine V_freezeO 1 rfl rfl ?_
  refine V_ret ?_
  replace h := Option.some.inj h
  subst h
  exact R_rP
def b_sProjIn (a0 : TType) : Option (List TBound) :=
gd (lenB [] + tnd a0 ≤ 4294967296 ∧ tok a0) (lt_ (prjT a0 []) fun x1 =>
(some x1))
set_option maxHeartbeats 4000000 in
theorem w_sProjIn (a0 : TType) {r : List TBound} (h : b_sProjIn a0 = some r) : SpecP Tryz.prog 50 [.d (eType a0)] [.sl 4 (eBounds r)] := by
  obtain ⟨a0_0, a0_1, a0_2⟩ := a0
  unfold b_sProjIn at h
  refine SpecP_intro Tryz.func50 rfl (by kernel_rfl) rfl fun A _ => ?_
  refine goL ?_
  refine VO_l0a ?_
  obtain ⟨g2, h⟩ := gd_s h
  obtain ⟨x1, hx1, h⟩ := lt_x h
  have sx1 := t_l23Projs (TType.mk a0_0 a0_1 a0_2) [] 0 g2
  rw [hx1] at sx1
  refine VO_cG [1] sx1 ?_
  rintro _ _ ⟨v3, rfl, rfl⟩
  show VO _ _ _ _ ⟨(_, .sl 1 v3) :: _, [.box [.d (.i .i64 a0_0), .d (.s a0_1), .d (.sl 3 (eTypes a0_2))], .arr 41 4 v3 (eBounds x1)], _⟩ _
  refine goL ?_
  refine V_freeze 1 rfl rfl ?_
  refine V_ret ?_
  replace h := Option.some.inj h
  subst h
  exact R_rP
end Go.Proofs.YtihihldpcgiibaaGreat
