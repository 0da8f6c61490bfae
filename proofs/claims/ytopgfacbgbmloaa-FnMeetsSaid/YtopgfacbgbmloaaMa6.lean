/- Me2. Written by a program of mine (aw.py). -/
import Derived.Test.YtopgfacbgbmloaaFacts
import Derived.Test.YtopgfacbgbmloaaMt
import Derived.Test.YtopgfacbgbmloaaMe1
import Derived.Test.YtopgfacbgbmloaaMa5
set_option linter.unusedVariables false
set_option linter.unusedSimpArgs false
set_option linter.unusedSectionVars false
namespace Go.Proofs.Ytopgfacbgbmloaa
open Go Go.Eng
attribute [local irreducible] V VO VQ VY Quiet QR SpecP SpecO MSpec Rng PostP PostO PostG
def b_l8Two (a0 : List UInt8) : Option (TType × TType) :=
lt_ (l1NewT a0) fun x1 =>
bnd (b_l4Free x1 3) fun x2 =>
bnd (b_l4Free x2.2 3) fun x3 =>
bnd (b_l1Below x3.2 4) fun x4 =>
(cnd (x4.1 == 0) (
bnd (l6BindsT x4.2) fun x6 =>
gd (bok x6.1 ∧ tok x2.1) (lt_ (apT x6.1 x2.1) fun x8 =>
(some (x2.1, x8)))) (
(cnd (x4.1 == 1) (
bnd (m_l4Ty 8 x4.2 [[97], [98], [99], [100]] 3) fun x10 =>
bnd (m_l4Ty 8 x10.2 [[98]] 1) fun x11 =>
gd (bok [(TBinding.mk [97] x11.1)] ∧ tok x10.1) (lt_ (apT [(TBinding.mk [97] x11.1)] x10.1) fun x13 =>
bnd (m_l4Ty 8 x11.2 [[100]] 1) fun x14 =>
gd (bok [(TBinding.mk [99] x14.1)] ∧ tok x10.1) (lt_ (apT [(TBinding.mk [99] x14.1)] x10.1) fun x16 =>
(some (x13, x16))))) (
(some (x2.1, x3.1))))))
set_option maxHeartbeats 4000000 in
theorem w_l8Two (a0 : List UInt8) {r : TType × TType} (h : b_l8Two a0 = some r) : SpecP Try.prog 16 [.d (.sl 1 (eBytes a0))] [eType r.1, eType r.2] := by
  unfold b_l8Two at h
  refine SpecP_intro Try.func16 rfl (by kernel_rfl) rfl fun A _ => ?_
  refine goL ?_
  obtain ⟨x1, hx1, h⟩ := lt_x h
  obtain ⟨x1_0, x1_1, x1_2⟩ := x1
  have sx1 := t_l1New a0
  rw [hx1] at sx1
  refine VO_cG [] (sx1) ?_
  rintro _ _ ⟨rfl, rfl⟩
  show VO _ _ _ _ ⟨(_, .ptr 2 0) :: _, [.box [.d (.i .i64 0), .d (.s []), .nilsl], .box [.d (.i .i64 0), .d (.s []), .nilsl], .box [.d (.sl 1 (eBytes x1_0)), .d (.i .i64 x1_1), .d (.i .i64 x1_2)]], _⟩ _
  refine goL ?_
  obtain ⟨x2, hx2, h⟩ := bnd_s h
  obtain ⟨⟨x2_0_0, x2_0_1, x2_0_2⟩, ⟨x2_1_0, x2_1_1, x2_1_2⟩⟩ := x2
  refine VO_cG [2] (w_l4Free (Tl1Cur.mk x1_0 x1_1 x1_2) 3 hx2) ?_
  rintro _ _ ⟨rfl, rfl⟩
  show VO _ _ _ _ ⟨(_, .d (.st [.i .i64 x2_0_0, .s x2_0_1, .sl 3 (eTypes x2_0_2)])) :: _, [.box [.d (.i .i64 0), .d (.s []), .nilsl], .box [.d (.i .i64 0), .d (.s []), .nilsl], .box [.d (.sl 1 (eBytes x2_1_0)), .d (.i .i64 x2_1_1), .d (.i .i64 x2_1_2)]], _⟩ _
  refine goL ?_
  obtain ⟨x3, hx3, h⟩ := bnd_s h
  obtain ⟨⟨x3_0_0, x3_0_1, x3_0_2⟩, ⟨x3_1_0, x3_1_1, x3_1_2⟩⟩ := x3
  refine VO_cG [2] (w_l4Free (Tl1Cur.mk x2_1_0 x2_1_1 x2_1_2) 3 hx3) ?_
  rintro _ _ ⟨rfl, rfl⟩
  show VO _ _ _ _ ⟨(_, .d (.st [.i .i64 x3_0_0, .s x3_0_1, .sl 3 (eTypes x3_0_2)])) :: _, [.box [.d (.i .i64 0), .d (.s []), .nilsl], .box [.d (.i .i64 0), .d (.s []), .nilsl], .box [.d (.sl 1 (eBytes x3_1_0)), .d (.i .i64 x3_1_1), .d (.i .i64 x3_1_2)], .box [.d (.i .i64 x2_0_0), .d (.s x2_0_1), .d (.sl 3 (eTypes x2_0_2))]], _⟩ _
  refine goL ?_
  obtain ⟨x4, hx4, h⟩ := bnd_s h
  obtain ⟨x4_0, ⟨x4_1_0, x4_1_1, x4_1_2⟩⟩ := x4
  refine VO_cG [2] (w_l1Below (Tl1Cur.mk x3_1_0 x3_1_1 x3_1_2) 4 hx4) ?_
  rintro _ _ ⟨rfl, rfl⟩
  show VO _ _ _ _ ⟨(_, .d (.i .i64 x4_0)) :: _, [.box [.d (.i .i64 0), .d (.s []), .nilsl], .box [.d (.i .i64 0), .d (.s []), .nilsl], .box [.d (.sl 1 (eBytes x4_1_0)), .d (.i .i64 x4_1_1), .d (.i .i64 x4_1_2)], .box [.d (.i .i64 x2_0_0), .d (.s x2_0_1), .d (.sl 3 (eTypes x2_0_2))], .box [.d (.i .i64 x3_0_0), .d (.s x3_0_1), .d (.sl 3 (eTypes x3_0_2))]], _⟩ _
  refine goL ?_
  refine V_block ?_
  refine goL ?_
  refine V_cb (fun c5 => ?_) (fun c5 => ?_)
  · replace h := cnd_t c5 h
    obtain ⟨x6, hx6, h⟩ := bnd_s h
    obtain ⟨x6_0, ⟨x6_1_0, x6_1_1, x6_1_2⟩⟩ := x6
    obtain ⟨g7, h⟩ := gd_s h
    obtain ⟨x8, hx8, h⟩ := lt_x h
    obtain ⟨x8_0, x8_1, x8_2⟩ := x8
    have sx8 := t_sApply x6_0 (TType.mk x2_0_0 x2_0_1 x2_0_2) g7
    rw [hx8] at sx8
    refine V_drawTJ (P := Try.prog) Mix.h (.q 0 (.h 1 (.h 2 (.h 3 (.h 4 .nil .nil) .nil) .nil) (.h 2 (.h 1 (.h 3 (.h 4 .nil .nil) .nil) .nil) .nil))) ⟨[(2, .ptr 0 0), (3, .ptr 1 0), (5, .ptr 3 0), (6, .ptr 4 0)], [.box [.d (.i .i64 0), .d (.s []), .nilsl], .box [.d (.i .i64 0), .d (.s []), .nilsl], .box [.d (.sl 1 (eBytes x6_1_0)), .d (.i .i64 x6_1_1), .d (.i .i64 x6_1_2)], .box [.d (.i .i64 x2_0_0), .d (.s x2_0_1), .d (.sl 3 (eTypes x2_0_2))], .box [.d (.i .i64 x8_0), .d (.s x8_1), .sl 5 0], .own 26 3 0 (eTypes x8_2)], Try.f16.ntmps⟩ (by kernel_rfl) ?_ ?_
    · refine goT ?_
      refine VT_h (VY_cG (sv := .d (.sl 4 (eBindings x6_0))) (L' := [.box [.d (.i .i64 0), .d (.s []), .nilsl], .box [.d (.i .i64 0), .d (.s []), .nilsl], .box [.d (.sl 1 (eBytes x6_1_0)), .d (.i .i64 x6_1_1), .d (.i .i64 x6_1_2)], .box [.d (.i .i64 x2_0_0), .d (.s x2_0_1), .d (.sl 3 (eTypes x2_0_2))], .box [.d (.i .i64 x3_0_0), .d (.s x3_0_1), .d (.sl 3 (eTypes x3_0_2))]]) [2] (t_l6Binds (Tl1Cur.mk x4_1_0 x4_1_1 x4_1_2) hx6) VY_e) ?_ ?_
      · refine VT_h1 (VY_dh VY_e) ?_
        refine VT_h1 (VY_co (sx8) VY_e) ?_
        refine goT ?_
        refine VT_nil ?_
        exact R_pk 0 [0, 1, 2, 3, 4, 5]
      refine VT_h1 (VY_dh VY_e) ?_
      refine VT_h1 (VY_cG (sv := .d (.sl 4 (eBindings x6_0))) (L' := [.box [.d (.i .i64 0), .d (.s []), .nilsl], .box [.d (.i .i64 0), .d (.s []), .nilsl], .box [.d (.sl 1 (eBytes x6_1_0)), .d (.i .i64 x6_1_1), .d (.i .i64 x6_1_2)], .box [.d (.i .i64 x2_0_0), .d (.s x2_0_1), .d (.sl 3 (eTypes x2_0_2))], .box [.d (.i .i64 x3_0_0), .d (.s x3_0_1), .d (.sl 3 (eTypes x3_0_2))]]) [2] (t_l6Binds (Tl1Cur.mk x4_1_0 x4_1_1 x4_1_2) hx6) VY_e) ?_
      refine VT_h1 (VY_co (sx8) VY_e) ?_
      refine goT ?_
      refine VT_nil ?_
      exact R_pk 0 [0, 1, 2, 3, 4, 5]
    refine goNL ?_
    refine V_seq_drawTJ (P := Try.prog) Mix.h (.h 0 (.h 1 (.h 2 (.h 3 .nil .nil) .nil) (.h 2 (.h 1 (.h 3 .nil .nil) .nil) .nil)) (.h 1 (.h 0 (.h 2 (.h 3 .nil .nil) .nil) .nil) .nil)) ⟨[(2, .ptr 0 0), (3, .ptr 1 0)], [.box [.d (.i .i64 x2_0_0), .d (.s x2_0_1), .d (.sl 3 (eTypes x2_0_2))], .box [.d (.i .i64 x8_0), .d (.s x8_1), .sl 5 0], .box [.d (.sl 1 (eBytes x6_1_0)), .d (.i .i64 x6_1_1), .d (.i .i64 x6_1_2)], .box [.d (.i .i64 x2_0_0), .d (.s x2_0_1), .d (.sl 3 (eTypes x2_0_2))], .box [.d (.i .i64 x8_0), .d (.s x8_1), .sl 5 0], .own 26 3 0 (eTypes x8_2)], Try.f16.ntmps⟩ (by kernel_rfl) ?_ ?_
    · refine VT_h (VY_dh VY_e) ?_ ?_
      · refine VT_h (VY_dh VY_e) ?_ ?_
        · refine goT ?_
          refine VT_nil ?_
          exact R_pk 0 [0, 1, 2, 3, 4, 5]
        refine goT ?_
        refine VT_h1 (VY_dh VY_e) ?_
        refine goT ?_
        refine VT_nil ?_
        exact R_pk 0 [0, 1, 2, 3, 4, 5]
      refine VT_h1 (VY_dh VY_e) ?_
      refine VT_h1 (VY_dh VY_e) ?_
      refine goT ?_
      refine VT_nil ?_
      exact R_pk 0 [0, 1, 2, 3, 4, 5]
    refine goL ?_
    refine V_freezeO 5 rfl rfl ?_
    refine V_ret ?_
    replace h := Option.some.inj h
    subst h
    exact R_rP
  · replace h := cnd_f c5 h
    refine goL ?_
    refine V_cb (fun c9 => ?_) (fun c9 => ?_)
    · replace h := cnd_t c9 h
      refine goL ?_
      refine VO_lb (us := eStrs [[97], [98], [99], [100]]) ?_
      refine VO_freeze 5 rfl rfl ?_
      obtain ⟨x10, hx10, h⟩ := bnd_s h
      obtain ⟨⟨x10_0_0, x10_0_1, x10_0_2⟩, ⟨x10_1_0, x10_1_1, x10_1_2⟩⟩ := x10
      refine VO_cG [2] (s_l4Ty 8 (Tl1Cur.mk x4_1_0 x4_1_1 x4_1_2) [[97], [98], [99], [100]] 3 hx10) ?_
      rintro _ _ ⟨rfl, rfl⟩
      show VO _ _ _ _ ⟨(_, .d (.st [.i .i64 x10_0_0, .s x10_0_1, .sl 3 (eTypes x10_0_2)])) :: _, [.box [.d (.i .i64 0), .d (.s []), .nilsl], .box [.d (.i .i64 0), .d (.s []), .nilsl], .box [.d (.sl 1 (eBytes x10_1_0)), .d (.i .i64 x10_1_1), .d (.i .i64 x10_1_2)], .box [.d (.i .i64 x2_0_0), .d (.s x2_0_1), .d (.sl 3 (eTypes x2_0_2))], .box [.d (.i .i64 x3_0_0), .d (.s x3_0_1), .d (.sl 3 (eTypes x3_0_2))], .frz 9 1 0 (eStrs [[97], [98], [99], [100]])], _⟩ _
      refine goNL ?_
      obtain ⟨x11, hx11, h⟩ := bnd_s h
      obtain ⟨⟨x11_0_0, x11_0_1, x11_0_2⟩, ⟨x11_1_0, x11_1_1, x11_1_2⟩⟩ := x11
      obtain ⟨g12, h⟩ := gd_s h
      obtain ⟨x13, hx13, h⟩ := lt_x h
      obtain ⟨x13_0, x13_1, x13_2⟩ := x13
      have sx13 := t_sApply [(TBinding.mk [97] (TType.mk x11_0_0 x11_0_1 x11_0_2))] (TType.mk x10_0_0 x10_0_1 x10_0_2) g12
      rw [hx13] at sx13
      refine V_seq_drawTJ (P := Try.prog) Mix.h (.q 0 (.h 1 (.h 2 (.q 3 (.h 4 (.h 5 (.h 6 (.h 7 .nil .nil) .nil) .nil) (.h 5 (.h 4 (.h 6 (.h 7 .nil .nil) .nil) .nil) .nil))) (.h 5 (.h 2 (.q 3 (.h 4 (.h 6 (.h 7 .nil .nil) .nil) .nil)) .nil) .nil)) (.h 5 (.h 1 (.h 2 (.q 3 (.h 4 (.h 6 (.h 7 .nil .nil) .nil) .nil)) .nil) .nil) .nil))) ⟨[(2, .ptr 0 0), (3, .ptr 1 0), (4, .ptr 2 0), (5, .ptr 3 0), (6, .ptr 4 0), (7, .ptr 6 0)], [.box [.d (.i .i64 0), .d (.s []), .nilsl], .box [.d (.i .i64 0), .d (.s []), .nilsl], .box [.d (.sl 1 (eBytes x11_1_0)), .d (.i .i64 x11_1_1), .d (.i .i64 x11_1_2)], .box [.d (.i .i64 x13_0), .d (.s x13_1), .sl 9 0], .box [.d (.i .i64 x3_0_0), .d (.s x3_0_1), .d (.sl 3 (eTypes x3_0_2))], .frz 9 1 0 (eStrs [[97], [98], [99], [100]]), .box [.d (.i .i64 x10_0_0), .d (.s x10_0_1), .d (.sl 3 (eTypes x10_0_2))], .frz 9 1 0 (eStrs [[98]]), .arr 40 4 0 (eBindings [(TBinding.mk [97] (TType.mk x11_0_0 x11_0_1 x11_0_2))]), .own 26 3 0 (eTypes x13_2)], Try.f16.ntmps⟩ (by kernel_rfl) ?_ ?_
      · refine goT ?_
        refine VT_h (VY_l1t (T := 30) ([98] : List UInt8) VY_e) ?_ ?_
        · refine VT_h (VY_frzO 7 rfl rfl (VY_cG (sv := .d (.st [.i .i64 x11_0_0, .s x11_0_1, .sl 3 (eTypes x11_0_2)])) (L' := [.box [.d (.i .i64 0), .d (.s []), .nilsl], .box [.d (.i .i64 0), .d (.s []), .nilsl], .box [.d (.sl 1 (eBytes x11_1_0)), .d (.i .i64 x11_1_1), .d (.i .i64 x11_1_2)], .box [.d (.i .i64 x2_0_0), .d (.s x2_0_1), .d (.sl 3 (eTypes x2_0_2))], .box [.d (.i .i64 x3_0_0), .d (.s x3_0_1), .d (.sl 3 (eTypes x3_0_2))], .frz 9 1 0 (eStrs [[97], [98], [99], [100]]), .box [.d (.i .i64 x10_0_0), .d (.s x10_0_1), .d (.sl 3 (eTypes x10_0_2))], .frz 9 1 0 (eStrs [[98]])]) [2] (s_l4Ty 8 (Tl1Cur.mk x10_1_0 x10_1_1 x10_1_2) [[98]] 1 hx11) VY_e)) ?_ ?_
          · refine goT ?_
            refine VT_h (VY_lb (T := 41) (us := eBindings [(TBinding.mk [97] (TType.mk x11_0_0 x11_0_1 x11_0_2))]) VY_e) ?_ ?_
            · refine VT_h1 (VY_dh VY_e) ?_
              refine VT_h1 (VY_co (sx13) VY_e) ?_
              refine goT ?_
              refine VT_nil ?_
              exact R_pk 0 [0, 1, 2, 3, 4, 5, 6, 7, 8, 9]
            refine VT_h1 (VY_dh VY_e) ?_
            refine VT_h1 (VY_lb (T := 41) (us := eBindings [(TBinding.mk [97] (TType.mk x11_0_0 x11_0_1 x11_0_2))]) VY_e) ?_
            refine VT_h1 (VY_co (sx13) VY_e) ?_
            refine goT ?_
            refine VT_nil ?_
            exact R_pk 0 [0, 1, 2, 3, 4, 5, 6, 7, 8, 9]
          refine VT_h1 (VY_dh VY_e) ?_
          refine VT_h1 (VY_frzO 7 rfl rfl (VY_cG (sv := .d (.st [.i .i64 x11_0_0, .s x11_0_1, .sl 3 (eTypes x11_0_2)])) (L' := [.box [.d (.i .i64 0), .d (.s []), .nilsl], .box [.d (.i .i64 0), .d (.s []), .nilsl], .box [.d (.sl 1 (eBytes x11_1_0)), .d (.i .i64 x11_1_1), .d (.i .i64 x11_1_2)], .box [.d (.i .i64 x2_0_0), .d (.s x2_0_1), .d (.sl 3 (eTypes x2_0_2))], .box [.d (.i .i64 x3_0_0), .d (.s x3_0_1), .d (.sl 3 (eTypes x3_0_2))], .frz 9 1 0 (eStrs [[97], [98], [99], [100]]), .box [.d (.i .i64 x10_0_0), .d (.s x10_0_1), .d (.sl 3 (eTypes x10_0_2))], .frz 9 1 0 (eStrs [[98]])]) [2] (s_l4Ty 8 (Tl1Cur.mk x10_1_0 x10_1_1 x10_1_2) [[98]] 1 hx11) VY_e)) ?_
          refine goT ?_
          refine VT_h1 (VY_lb (T := 41) (us := eBindings [(TBinding.mk [97] (TType.mk x11_0_0 x11_0_1 x11_0_2))]) VY_e) ?_
          refine VT_h1 (VY_co (sx13) VY_e) ?_
          refine goT ?_
          refine VT_nil ?_
          exact R_pk 0 [0, 1, 2, 3, 4, 5, 6, 7, 8, 9]
        refine VT_h1 (VY_dh VY_e) ?_
        refine VT_h1 (VY_l1t (T := 30) ([98] : List UInt8) VY_e) ?_
        refine VT_h1 (VY_frzO 7 rfl rfl (VY_cG (sv := .d (.st [.i .i64 x11_0_0, .s x11_0_1, .sl 3 (eTypes x11_0_2)])) (L' := [.box [.d (.i .i64 0), .d (.s []), .nilsl], .box [.d (.i .i64 0), .d (.s []), .nilsl], .box [.d (.sl 1 (eBytes x11_1_0)), .d (.i .i64 x11_1_1), .d (.i .i64 x11_1_2)], .box [.d (.i .i64 x2_0_0), .d (.s x2_0_1), .d (.sl 3 (eTypes x2_0_2))], .box [.d (.i .i64 x3_0_0), .d (.s x3_0_1), .d (.sl 3 (eTypes x3_0_2))], .frz 9 1 0 (eStrs [[97], [98], [99], [100]]), .box [.d (.i .i64 x10_0_0), .d (.s x10_0_1), .d (.sl 3 (eTypes x10_0_2))], .frz 9 1 0 (eStrs [[98]])]) [2] (s_l4Ty 8 (Tl1Cur.mk x10_1_0 x10_1_1 x10_1_2) [[98]] 1 hx11) VY_e)) ?_
        refine goT ?_
        refine VT_h1 (VY_lb (T := 41) (us := eBindings [(TBinding.mk [97] (TType.mk x11_0_0 x11_0_1 x11_0_2))]) VY_e) ?_
        refine VT_h1 (VY_co (sx13) VY_e) ?_
        refine goT ?_
        refine VT_nil ?_
        exact R_pk 0 [0, 1, 2, 3, 4, 5, 6, 7, 8, 9]
      refine goNL ?_
      obtain ⟨x14, hx14, h⟩ := bnd_s h
      obtain ⟨⟨x14_0_0, x14_0_1, x14_0_2⟩, ⟨x14_1_0, x14_1_1, x14_1_2⟩⟩ := x14
      obtain ⟨g15, h⟩ := gd_s h
      obtain ⟨x16, hx16, h⟩ := lt_x h
      obtain ⟨x16_0, x16_1, x16_2⟩ := x16
      have sx16 := t_sApply [(TBinding.mk [99] (TType.mk x14_0_0 x14_0_1 x14_0_2))] (TType.mk x10_0_0 x10_0_1 x10_0_2) g15
      rw [hx16] at sx16
      refine V_drawTJ (P := Try.prog) Mix.h (.q 0 (.h 1 (.h 2 (.q 3 (.h 4 (.h 5 (.h 6 (.h 7 .nil .nil) .nil) .nil) (.h 5 (.h 4 (.h 6 (.h 7 .nil .nil) .nil) .nil) .nil))) (.h 5 (.h 2 (.q 3 (.h 4 (.h 6 (.h 7 .nil .nil) .nil) .nil)) .nil) .nil)) (.h 5 (.h 1 (.h 2 (.q 3 (.h 4 (.h 6 (.h 7 .nil .nil) .nil) .nil)) .nil) .nil) .nil))) ⟨[(2, .ptr 0 0), (3, .ptr 1 0), (5, .ptr 3 0), (6, .ptr 4 0)], [.box [.d (.i .i64 0), .d (.s []), .nilsl], .box [.d (.i .i64 0), .d (.s []), .nilsl], .box [.d (.sl 1 (eBytes x14_1_0)), .d (.i .i64 x14_1_1), .d (.i .i64 x14_1_2)], .box [.d (.i .i64 x13_0), .d (.s x13_1), .sl 9 0], .box [.d (.i .i64 x16_0), .d (.s x16_1), .sl 12 0], .frz 9 1 0 (eStrs [[97], [98], [99], [100]]), .box [.d (.i .i64 x10_0_0), .d (.s x10_0_1), .d (.sl 3 (eTypes x10_0_2))], .frz 9 1 0 (eStrs [[98]]), .arr 40 4 0 (eBindings [(TBinding.mk [97] (TType.mk x11_0_0 x11_0_1 x11_0_2))]), .own 26 3 0 (eTypes x13_2), .frz 9 1 0 (eStrs [[100]]), .arr 40 4 0 (eBindings [(TBinding.mk [99] (TType.mk x14_0_0 x14_0_1 x14_0_2))]), .own 26 3 0 (eTypes x16_2)], Try.f16.ntmps⟩ (by kernel_rfl) ?_ ?_
      · refine goT ?_
        refine VT_h (VY_l1t (T := 30) ([100] : List UInt8) VY_e) ?_ ?_
        · refine VT_h (VY_frzO 10 rfl rfl (VY_cG (sv := .d (.st [.i .i64 x14_0_0, .s x14_0_1, .sl 3 (eTypes x14_0_2)])) (L' := [.box [.d (.i .i64 0), .d (.s []), .nilsl], .box [.d (.i .i64 0), .d (.s []), .nilsl], .box [.d (.sl 1 (eBytes x14_1_0)), .d (.i .i64 x14_1_1), .d (.i .i64 x14_1_2)], .box [.d (.i .i64 x13_0), .d (.s x13_1), .sl 9 0], .box [.d (.i .i64 x3_0_0), .d (.s x3_0_1), .d (.sl 3 (eTypes x3_0_2))], .frz 9 1 0 (eStrs [[97], [98], [99], [100]]), .box [.d (.i .i64 x10_0_0), .d (.s x10_0_1), .d (.sl 3 (eTypes x10_0_2))], .frz 9 1 0 (eStrs [[98]]), .arr 40 4 0 (eBindings [(TBinding.mk [97] (TType.mk x11_0_0 x11_0_1 x11_0_2))]), .own 26 3 0 (eTypes x13_2), .frz 9 1 0 (eStrs [[100]])]) [2] (s_l4Ty 8 (Tl1Cur.mk x11_1_0 x11_1_1 x11_1_2) [[100]] 1 hx14) VY_e)) ?_ ?_
          · refine goT ?_
            refine VT_h (VY_lb (T := 41) (us := eBindings [(TBinding.mk [99] (TType.mk x14_0_0 x14_0_1 x14_0_2))]) VY_e) ?_ ?_
            · refine VT_h1 (VY_dh VY_e) ?_
              refine VT_h1 (VY_co (sx16) VY_e) ?_
              refine goT ?_
              refine VT_nil ?_
              exact R_pk 0 [0, 1, 2, 3, 4, 5, 6, 7, 8, 9, 10, 11, 12]
            refine VT_h1 (VY_dh VY_e) ?_
            refine VT_h1 (VY_lb (T := 41) (us := eBindings [(TBinding.mk [99] (TType.mk x14_0_0 x14_0_1 x14_0_2))]) VY_e) ?_
            refine VT_h1 (VY_co (sx16) VY_e) ?_
            refine goT ?_
            refine VT_nil ?_
            exact R_pk 0 [0, 1, 2, 3, 4, 5, 6, 7, 8, 9, 10, 11, 12]
          refine VT_h1 (VY_dh VY_e) ?_
          refine VT_h1 (VY_frzO 10 rfl rfl (VY_cG (sv := .d (.st [.i .i64 x14_0_0, .s x14_0_1, .sl 3 (eTypes x14_0_2)])) (L' := [.box [.d (.i .i64 0), .d (.s []), .nilsl], .box [.d (.i .i64 0), .d (.s []), .nilsl], .box [.d (.sl 1 (eBytes x14_1_0)), .d (.i .i64 x14_1_1), .d (.i .i64 x14_1_2)], .box [.d (.i .i64 x13_0), .d (.s x13_1), .sl 9 0], .box [.d (.i .i64 x3_0_0), .d (.s x3_0_1), .d (.sl 3 (eTypes x3_0_2))], .frz 9 1 0 (eStrs [[97], [98], [99], [100]]), .box [.d (.i .i64 x10_0_0), .d (.s x10_0_1), .d (.sl 3 (eTypes x10_0_2))], .frz 9 1 0 (eStrs [[98]]), .arr 40 4 0 (eBindings [(TBinding.mk [97] (TType.mk x11_0_0 x11_0_1 x11_0_2))]), .own 26 3 0 (eTypes x13_2), .frz 9 1 0 (eStrs [[100]])]) [2] (s_l4Ty 8 (Tl1Cur.mk x11_1_0 x11_1_1 x11_1_2) [[100]] 1 hx14) VY_e)) ?_
          refine goT ?_
          refine VT_h1 (VY_lb (T := 41) (us := eBindings [(TBinding.mk [99] (TType.mk x14_0_0 x14_0_1 x14_0_2))]) VY_e) ?_
          refine VT_h1 (VY_co (sx16) VY_e) ?_
          refine goT ?_
          refine VT_nil ?_
          exact R_pk 0 [0, 1, 2, 3, 4, 5, 6, 7, 8, 9, 10, 11, 12]
        refine VT_h1 (VY_dh VY_e) ?_
        refine VT_h1 (VY_l1t (T := 30) ([100] : List UInt8) VY_e) ?_
        refine VT_h1 (VY_frzO 10 rfl rfl (VY_cG (sv := .d (.st [.i .i64 x14_0_0, .s x14_0_1, .sl 3 (eTypes x14_0_2)])) (L' := [.box [.d (.i .i64 0), .d (.s []), .nilsl], .box [.d (.i .i64 0), .d (.s []), .nilsl], .box [.d (.sl 1 (eBytes x14_1_0)), .d (.i .i64 x14_1_1), .d (.i .i64 x14_1_2)], .box [.d (.i .i64 x13_0), .d (.s x13_1), .sl 9 0], .box [.d (.i .i64 x3_0_0), .d (.s x3_0_1), .d (.sl 3 (eTypes x3_0_2))], .frz 9 1 0 (eStrs [[97], [98], [99], [100]]), .box [.d (.i .i64 x10_0_0), .d (.s x10_0_1), .d (.sl 3 (eTypes x10_0_2))], .frz 9 1 0 (eStrs [[98]]), .arr 40 4 0 (eBindings [(TBinding.mk [97] (TType.mk x11_0_0 x11_0_1 x11_0_2))]), .own 26 3 0 (eTypes x13_2), .frz 9 1 0 (eStrs [[100]])]) [2] (s_l4Ty 8 (Tl1Cur.mk x11_1_0 x11_1_1 x11_1_2) [[100]] 1 hx14) VY_e)) ?_
        refine goT ?_
        refine VT_h1 (VY_lb (T := 41) (us := eBindings [(TBinding.mk [99] (TType.mk x14_0_0 x14_0_1 x14_0_2))]) VY_e) ?_
        refine VT_h1 (VY_co (sx16) VY_e) ?_
        refine goT ?_
        refine VT_nil ?_
        exact R_pk 0 [0, 1, 2, 3, 4, 5, 6, 7, 8, 9, 10, 11, 12]
      refine goNL ?_
      refine V_seq_drawTJ (P := Try.prog) Mix.h (.h 0 (.h 1 (.h 2 (.h 3 .nil .nil) .nil) (.h 2 (.h 1 (.h 3 .nil .nil) .nil) .nil)) (.h 1 (.h 0 (.h 2 (.h 3 .nil .nil) .nil) .nil) .nil)) ⟨[(2, .ptr 0 0), (3, .ptr 1 0)], [.box [.d (.i .i64 x13_0), .d (.s x13_1), .sl 9 0], .box [.d (.i .i64 x16_0), .d (.s x16_1), .sl 12 0], .box [.d (.sl 1 (eBytes x14_1_0)), .d (.i .i64 x14_1_1), .d (.i .i64 x14_1_2)], .box [.d (.i .i64 x13_0), .d (.s x13_1), .sl 9 0], .box [.d (.i .i64 x16_0), .d (.s x16_1), .sl 12 0], .frz 9 1 0 (eStrs [[97], [98], [99], [100]]), .box [.d (.i .i64 x10_0_0), .d (.s x10_0_1), .d (.sl 3 (eTypes x10_0_2))], .frz 9 1 0 (eStrs [[98]]), .arr 40 4 0 (eBindings [(TBinding.mk [97] (TType.mk x11_0_0 x11_0_1 x11_0_2))]), .own 26 3 0 (eTypes x13_2), .frz 9 1 0 (eStrs [[100]]), .arr 40 4 0 (eBindings [(TBinding.mk [99] (TType.mk x14_0_0 x14_0_1 x14_0_2))]), .own 26 3 0 (eTypes x16_2)], Try.f16.ntmps⟩ (by kernel_rfl) ?_ ?_
      · refine VT_h (VY_dh VY_e) ?_ ?_
        · refine VT_h (VY_dh VY_e) ?_ ?_
          · refine goT ?_
            refine VT_nil ?_
            exact R_pk 0 [0, 1, 2, 3, 4, 5, 6, 7, 8, 9, 10, 11, 12]
          refine goT ?_
          refine VT_h1 (VY_dh VY_e) ?_
          refine goT ?_
          refine VT_nil ?_
          exact R_pk 0 [0, 1, 2, 3, 4, 5, 6, 7, 8, 9, 10, 11, 12]
        refine VT_h1 (VY_dh VY_e) ?_
        refine VT_h1 (VY_dh VY_e) ?_
        refine goT ?_
        refine VT_nil ?_
        exact R_pk 0 [0, 1, 2, 3, 4, 5, 6, 7, 8, 9, 10, 11, 12]
      refine goL ?_
      refine V_freezeO 9 rfl rfl ?_
      refine V_freezeO 12 rfl rfl ?_
      refine V_ret ?_
      replace h := Option.some.inj h
      subst h
      exact R_rP
    · replace h := cnd_f c9 h
      refine V_skip ?_
      show V _ _ _ _ _
      refine V_seq_drawTJ (P := Try.prog) Mix.h (.h 0 (.h 1 (.h 2 (.h 3 .nil .nil) .nil) (.h 2 (.h 1 (.h 3 .nil .nil) .nil) .nil)) (.h 1 (.h 0 (.h 2 (.h 3 .nil .nil) .nil) .nil) .nil)) ⟨[(2, .ptr 0 0), (3, .ptr 1 0)], [.box [.d (.i .i64 x2_0_0), .d (.s x2_0_1), .d (.sl 3 (eTypes x2_0_2))], .box [.d (.i .i64 x3_0_0), .d (.s x3_0_1), .d (.sl 3 (eTypes x3_0_2))], .box [.d (.sl 1 (eBytes x4_1_0)), .d (.i .i64 x4_1_1), .d (.i .i64 x4_1_2)], .box [.d (.i .i64 x2_0_0), .d (.s x2_0_1), .d (.sl 3 (eTypes x2_0_2))], .box [.d (.i .i64 x3_0_0), .d (.s x3_0_1), .d (.sl 3 (eTypes x3_0_2))]], Try.f16.ntmps⟩ (by kernel_rfl) ?_ ?_
      · refine VT_h (VY_dh VY_e) ?_ ?_
        · refine VT_h (VY_dh VY_e) ?_ ?_
          · refine goT ?_
            refine VT_nil ?_
            exact R_pk 0 [0, 1, 2, 3, 4]
          refine goT ?_
          refine VT_h1 (VY_dh VY_e) ?_
          refine goT ?_
          refine VT_nil ?_
          exact R_pk 0 [0, 1, 2, 3, 4]
        refine VT_h1 (VY_dh VY_e) ?_
        refine VT_h1 (VY_dh VY_e) ?_
        refine goT ?_
        refine VT_nil ?_
        exact R_pk 0 [0, 1, 2, 3, 4]
      refine goL ?_
      refine V_ret ?_
      replace h := Option.some.inj h
      subst h
      exact R_rP
def b_drawUnifiable (a0 : List UInt8) : Option (TType × TType) :=
bnd (b_l8Two a0) fun x1 =>
(some (x1.1, x1.2))
set_option maxHeartbeats 4000000 in
theorem w_drawUnifiable (a0 : List UInt8) {r : TType × TType} (h : b_drawUnifiable a0 = some r) : SpecP Try.prog 6 [.d (.sl 1 (eBytes a0))] [eType r.1, eType r.2] := by
  unfold b_drawUnifiable at h
  refine SpecP_intro Try.func6 rfl (by kernel_rfl) rfl fun A _ => ?_
  refine goL ?_
  obtain ⟨x1, hx1, h⟩ := bnd_s h
  obtain ⟨⟨x1_0_0, x1_0_1, x1_0_2⟩, ⟨x1_1_0, x1_1_1, x1_1_2⟩⟩ := x1
  refine VO_r (QR_call (w_l8Two a0 hx1)) ?_
  refine goL ?_
  refine V_ret ?_
  replace h := Option.some.inj h
  subst h
  exact R_rP
def b_FnMeets (a0 : List UInt8) : Option (Bool) :=
(cnd (b_big a0) (
(some true)) (
bnd (b_drawUnifiable a0) fun x2 =>
bnd (b_iUnifiable x2.1 x2.2) fun x3 =>
bnd (b_sUnifiable x2.1 x2.2) fun x4 =>
bnd ((cnd (x3 == x4) (bnd (b_iUnifiable x2.2 x2.1) fun x7 =>
(cnd (x7 == x3) (bnd (b_iMatches x2.1 x2.2) fun x9 =>
(cnd (!x9) (bnd (b_iUnifiable x2.1 x2.1) fun x11 =>
(some x11)) ((cnd x3 (bnd (b_iUnifiable x2.1 x2.1) fun x13 =>
(some x13)) ((some false)))))) ((some false)))) ((some false)))) fun b5 =>
(some b5)))
set_option maxHeartbeats 4000000 in
theorem w_FnMeets (a0 : List UInt8) {r : Bool} (h : b_FnMeets a0 = some r) : SpecP Try.prog 3 [.d (.sl 1 (eBytes a0))] [.b r] := by
  unfold b_FnMeets at h
  refine SpecP_intro Try.func3 rfl (by kernel_rfl) rfl fun A _ => ?_
  refine goL ?_
  refine VO_r (QR_call (w_big a0)) ?_
  refine goL ?_
  refine V_cb (fun c1 => ?_) (fun c1 => ?_)
  · replace h := cnd_t c1 h
    refine goL ?_
    refine V_ret ?_
    replace h := Option.some.inj h
    subst h
    exact R_rP
  · replace h := cnd_f c1 h
    refine V_skip ?_
    show V _ _ _ _ _
    refine goL ?_
    obtain ⟨x2, hx2, h⟩ := bnd_s h
    obtain ⟨⟨x2_0_0, x2_0_1, x2_0_2⟩, ⟨x2_1_0, x2_1_1, x2_1_2⟩⟩ := x2
    refine VO_r (QR_call (w_drawUnifiable a0 hx2)) ?_
    refine goL ?_
    obtain ⟨x3, hx3, h⟩ := bnd_s h
    refine VO_r (QR_call (w_iUnifiable (TType.mk x2_0_0 x2_0_1 x2_0_2) (TType.mk x2_1_0 x2_1_1 x2_1_2) hx3)) ?_
    refine goL ?_
    obtain ⟨x4, hx4, h⟩ := bnd_s h
    refine VO_r (QR_call (w_sUnifiable (TType.mk x2_0_0 x2_0_1 x2_0_2) (TType.mk x2_1_0 x2_1_1 x2_1_2) hx4)) ?_
    refine goL ?_
    obtain ⟨b5, hb5, h⟩ := bnd_s h
    refine VO_join ⟨[(2, .d (.b b5))], [.box [.d (.i .i64 x2_0_0), .d (.s x2_0_1), .d (.sl 3 (eTypes x2_0_2))], .box [.d (.i .i64 x2_1_0), .d (.s x2_1_1), .d (.sl 3 (eTypes x2_1_2))]], Try.f3.ntmps⟩ ?_ ?_
    · refine VO_case 21 (fun c6 => ?_) (fun c6 => ?_)
      · replace hb5 := cnd_t c6 hb5
        refine goL ?_
        refine VO_b ?_
        obtain ⟨x7, hx7, hb5⟩ := bnd_s hb5
        refine VO_r (QR_call (w_iUnifiable (TType.mk x2_1_0 x2_1_1 x2_1_2) (TType.mk x2_0_0 x2_0_1 x2_0_2) hx7)) ?_
        refine goL ?_
        refine VO_case 28 (fun c8 => ?_) (fun c8 => ?_)
        · replace hb5 := cnd_t c8 hb5
          refine goL ?_
          refine VO_b ?_
          obtain ⟨x9, hx9, hb5⟩ := bnd_s hb5
          refine VO_r (QR_call (w_iMatches (TType.mk x2_0_0 x2_0_1 x2_0_2) (TType.mk x2_1_0 x2_1_1 x2_1_2) hx9)) ?_
          refine goL ?_
          refine VO_case 33 (fun c10 => ?_) (fun c10 => ?_)
          · replace hb5 := cnd_t c10 hb5
            refine goL ?_
            refine VO_b ?_
            obtain ⟨x11, hx11, hb5⟩ := bnd_s hb5
            refine VO_r (QR_call (w_iUnifiable (TType.mk x2_0_0 x2_0_1 x2_0_2) (TType.mk x2_0_0 x2_0_1 x2_0_2) hx11)) ?_
            refine goL ?_
            cases hb5
            exact ⟨rfl, ⟨⟨rfl, rfl⟩, trivial⟩, ⟨[], rfl⟩, rfl⟩
          · replace hb5 := cnd_f c10 hb5
            refine goL ?_
            refine VO_case 37 (fun c12 => ?_) (fun c12 => ?_)
            · replace hb5 := cnd_t c12 hb5
              refine goL ?_
              refine VO_b ?_
              obtain ⟨x13, hx13, hb5⟩ := bnd_s hb5
              refine VO_r (QR_call (w_iUnifiable (TType.mk x2_0_0 x2_0_1 x2_0_2) (TType.mk x2_0_0 x2_0_1 x2_0_2) hx13)) ?_
              refine goL ?_
              cases hb5
              exact ⟨rfl, ⟨⟨rfl, rfl⟩, trivial⟩, ⟨[], rfl⟩, rfl⟩
            · replace hb5 := cnd_f c12 hb5
              refine goL ?_
              cases hb5
              exact ⟨rfl, ⟨⟨rfl, rfl⟩, trivial⟩, ⟨[], rfl⟩, rfl⟩
        · replace hb5 := cnd_f c8 hb5
          refine goL ?_
          cases hb5
          exact ⟨rfl, ⟨⟨rfl, rfl⟩, trivial⟩, ⟨[], rfl⟩, rfl⟩
      · replace hb5 := cnd_f c6 hb5
        refine goL ?_
        cases hb5
        exact ⟨rfl, ⟨⟨rfl, rfl⟩, trivial⟩, ⟨[], rfl⟩, rfl⟩
    refine goL ?_
    refine V_ret ?_
    replace h := Option.some.inj h
    subst h
    exact R_rP
end Go.Proofs.Ytopgfacbgbmloaa
set_option linter.unusedVariables false
set_option linter.unusedSimpArgs false
set_option linter.unusedSectionVars false
namespace Go.Proofs.Ytopgfacbgbmloaa
open Go Go.Eng
attribute [local irreducible] V VO VQ VY Quiet QR SpecP SpecO MSpec Rng PostP PostO PostG
/-! ### what the programs answer -/
theorem l6Copy_l1_eq : ∀ (xs y : List TBinding), (∀ b ∈ xs, tok b.type_) → y.length + xs.length ≤ 4000000 → b_l6Copy_l1 xs y = some (y ++ xs)
  | [], y, _, _ => by simp [b_l6Copy_l1]
  | x :: xs, y, h1, h2 => by
    simp only [List.length_cons] at h2
    simp only [b_l6Copy_l1, lt_, idT]
    rw [gd_eq (h1 x (by simp)), gd_eq (by simp; omega), l6Copy_l1_eq xs _ (fun b hb => h1 b (by simp [hb])) (by simp; omega)]
    simp
/-- What both programs answer at a pair. -/
def Ver (a b : TType) (v : Bool) : Prop := (∃ x, b_iUnifyF a b = some (x, v)) ∧ ∃ y, b_sUnifyF a b = some (y, v)
theorem verdict {a b : TType} {s : Prop} (h : Res 50000 [a] [b] s) : ∃ v, Ver a b v ∧ (v = true → ∃ l, apT l a = apT l b) ∧ (tna a → tna b → ∀ q, apT q a = apT q b → v = true) ∧ (s → v = true) := by
  obtain ⟨r, p, q1, q2, q3, q4, q5, q6⟩ := h
  have q2' : m_sAll 100000 [a] [b] [] = some p := q2
  have hl1 : ((([a] : List TType).length : Int) != ([b] : List TType).length) = false := by simp
  have hI : b_iUnifyF a b = some ((resI r).2, (resI r).1) := by
    unfold b_iUnifyF b_iUnifyAll unifyNil
    rw [hl1, q1]
    rfl
  refine ⟨r.isSome, ⟨?_, ?_⟩, fun hv => ?_, fun h1 h2 q hq => ?_, fun hs => ?_⟩
  · cases r with
    | none => exact ⟨_, hI⟩
    | some l => exact ⟨_, hI⟩
  · unfold b_sUnifyF b_sUnifyAll
    rw [hl1, q2']
    cases r with
    | none =>
      have e : p.2 = false := q3
      simp only [cnd_false, bnd, e, Bool.not_false, cnd_true]
      exact ⟨_, rfl⟩
    | some l =>
      have e : p = (l, true) := q3
      subst e
      obtain ⟨w1, w2, _⟩ := q4 l rfl
      simp only [cnd_false, bnd, Bool.not_true]
      unfold b_l6Copy
      rw [l6Copy_l1_eq l [] w1 (by simp; omega)]
      exact ⟨_, rfl⟩
  · cases r with
    | none => cases hv
    | some l =>
      obtain ⟨_, _, w⟩ := q4 l rfl
      exact ⟨l, by simpa [apTs] using w⟩
  · cases r with
    | none => exact absurd rfl (q5 (by simp [tnas, h1]) (by simp [tnas, h2]) q (by simp [apTs, hq]))
    | some l => rfl
  · cases r with
    | none => exact absurd rfl (q6 hs)
    | some l => rfl
/-- What is asked of a pair: not too great. -/
structure Fit (a b : TType) : Prop where
  oa : tok a
  ob : tok b
  sa : tnd a ≤ 1000
  sb : tnd b ≤ 1000
  ca : (varsT a []).length ≤ 4
  cb : (varsT b []).length ≤ 4
  short : Shn (varsT a []) b
def rn2 (a b : TType) : List TBinding := renOf (varsT a []) (varsT b [])
theorem unifiable {a b : TType} (h : Fit a b) {v : Bool} (hv : Ver a (apT (rn2 a b) b) v) : b_iUnifiable a b = some v ∧ b_sUnifiable a b = some v := by
  have s1 := h.sa
  have s2 := h.sb
  have c1 := h.ca
  have c2 := h.cb
  obtain ⟨⟨x, e1⟩, ⟨y, e2⟩⟩ := hv
  unfold rn2 at e1 e2
  refine ⟨?_, ?_⟩
  · unfold b_iUnifiable
    rw [bnd_eq (iren_eq a b (by omega) (by omega) (by omega) (by omega) h.short), gd_eq ⟨renOf_bok _ _, h.ob⟩]
    simp only [lt_]
    rw [bnd_eq e1]
  · unfold b_sUnifiable
    rw [bnd_eq (sTV_eq a (by omega)), bnd_eq (sren_eq a b (by omega) (by omega) (by omega) (by omega) h.short h.ob), bnd_eq e2]
mutual
theorem varsT_nodup : ∀ (t : TType) (l : List (List UInt8)), l.Nodup → (varsT t l).Nodup
  | ⟨k, n, ts⟩, l, h => by
    simp only [varsT]
    refine varsTs_nodup ts _ ?_
    unfold addVar
    split
    · rename_i hc
      exact List.nodup_append.2 ⟨h, by simp, fun a ha b hb hab => by simp at hb; subst hb; subst hab; exact hc.2 ha⟩
    · exact h
theorem varsTs_nodup : ∀ (ts : List TType) (l : List (List UInt8)), l.Nodup → (varsTs ts l).Nodup
  | [], l, h => h
  | a :: ts, l, h => varsTs_nodup ts _ (varsT_nodup a l h)
end
theorem vars_few {t : TType} {V : List (List UInt8)} (h : ∀ v ∈ tvs t, v ∈ V) : (varsT t []).length ≤ V.length := nodup_le (varsT_nodup t [] List.nodup_nil) (fun v hv => h v (varsT_sub t v hv))
theorem vars_in (t : TType) : ∀ v ∈ tvs t, v ∈ varsT t [] := fun v hv => (varsT_mem v t []).2 (.inr hv)
mutual
theorem tvs_ap2 {l : List TBinding} {v : List UInt8} : ∀ (t : TType), v ∈ tvs (apT l t) → (v ∈ tvs t ∧ v ∉ dom l) ∨ ∃ u ∈ tvs t, (lkp u l).2 = true ∧ v ∈ tvs (lkp u l).1
  | ⟨k, n, ts⟩, h => by
    have key : v ∈ tvss (apTs l ts) → (v ∈ tvs ⟨k, n, ts⟩ ∧ v ∉ dom l) ∨ ∃ u ∈ tvs ⟨k, n, ts⟩, (lkp u l).2 = true ∧ v ∈ tvs (lkp u l).1 := fun h => by
      rcases tvss_ap2 ts h with ⟨h1, h2⟩ | ⟨u, h1, h2⟩
      · exact .inl ⟨by simp [tvs, h1], h2⟩
      · exact .inr ⟨u, by simp [tvs, h1], h2⟩
    by_cases hk : k = 1
    · subst hk
      cases hb : (lkp n l).2 with
      | true =>
        rw [apT_var1 _ _ _ hb] at h
        exact .inr ⟨n, by simp [tvs], hb, h⟩
      | false =>
        rw [apT_var0 _ _ _ hb] at h
        simp only [tvs, if_true, List.mem_append, List.mem_singleton] at h
        rcases h with rfl | h
        · exact .inl ⟨by simp [tvs], lkp_no2 hb⟩
        · exact key h
    · rw [apT_con _ _ _ _ hk] at h
      exact key (by simpa [tvs, hk] using h)
theorem tvss_ap2 {l : List TBinding} {v : List UInt8} : ∀ (ts : List TType), v ∈ tvss (apTs l ts) → (v ∈ tvss ts ∧ v ∉ dom l) ∨ ∃ u ∈ tvss ts, (lkp u l).2 = true ∧ v ∈ tvs (lkp u l).1
  | [], h => by simp [apTs, tvss] at h
  | a :: ts, h => by
    simp only [apTs, tvss, List.mem_append] at h
    rcases h with h | h
    · rcases tvs_ap2 a h with ⟨h1, h2⟩ | ⟨u, h1, h2⟩
      · exact .inl ⟨by simp [tvss, h1], h2⟩
      · exact .inr ⟨u, by simp [tvss, h1], h2⟩
    · rcases tvss_ap2 ts h with ⟨h1, h2⟩ | ⟨u, h1, h2⟩
      · exact .inl ⟨by simp [tvss, h1], h2⟩
      · exact .inr ⟨u, by simp [tvss, h1], h2⟩
end
/-- Names after a renaming. -/
theorem ren_tvs {va vb : List (List UInt8)} {t : TType} (ht : ∀ v ∈ tvs t, v ∈ vb) : ∀ w ∈ tvs (apT (renOf va vb) t), ∃ v ∈ vb, w = phi (renOf va vb) v := fun w hw => by
  have R := renOf_ren va vb
  rcases tvs_ap2 t hw with ⟨h1, h2⟩ | ⟨u, h1, h2, h3⟩
  · refine ⟨w, ht w h1, ?_⟩
    unfold phi
    rw [lkp_out h2, cnd_false]
  · have hin : u ∈ vb ∧ u ∈ va := Classical.byContradiction fun hc => by
      have := R.out u hc
      rw [h2] at this
      cases this
    obtain ⟨s, q1, q2, q3⟩ := R.rng u hin.1 hin.2
    rw [q1] at h3
    refine ⟨u, hin.1, ?_⟩
    unfold phi
    rw [q1, cnd_true]
    simpa [vr, tvs, tvss] using h3
theorem ren_size {va vb : List (List UInt8)} (t : TType) : tnd (apT (renOf va vb) t) ≤ tnd t := by
  have := apT_tnd (M := 1) ⟨by decide, fun b hb => by obtain ⟨s, hs⟩ := renOf_rng va vb b hb; rw [hs]; simp [vr, tnd, tnds]⟩ t
  omega
mutual
theorem apF_vr : ∀ (t : TType), tna t → apF vr t = t
  | ⟨k, n, ts⟩, h => by
    simp only [tna] at h
    simp only [apF]
    by_cases hk : k = 1
    · subst hk
      have := h.1 rfl
      subst this
      rfl
    · rw [if_neg hk, apFs_vr ts h.2]
theorem apFs_vr : ∀ (ts : List TType), tnas ts → apFs vr ts = ts
  | [], _ => rfl
  | a :: ts, h => by
    simp only [tnas] at h
    simp only [apFs]
    rw [apF_vr a h.1, apFs_vr ts h.2]
end
mutual
theorem tvs_apF {f : List UInt8 → TType} {v : List UInt8} : ∀ (t : TType), v ∈ tvs t → tna t → ∀ w ∈ tvs (f v), w ∈ tvs (apF f t)
  | ⟨k, n, ts⟩, hv, ht => fun w hw => by
    simp only [tna] at ht
    simp only [apF]
    by_cases hk : k = 1
    · subst hk
      have := ht.1 rfl
      subst this
      simp only [tvs, if_true, tvss, List.append_nil, List.mem_singleton] at hv
      subst hv
      simpa using hw
    · rw [if_neg hk]
      have := tvss_apF ts (by simpa [tvs, hk] using hv) ht.2 w hw
      simp [tvs, this]
theorem tvss_apF {f : List UInt8 → TType} {v : List UInt8} : ∀ (ts : List TType), v ∈ tvss ts → tnas ts → ∀ w ∈ tvs (f v), w ∈ tvss (apFs f ts)
  | [], hv, _ => by simp [tvss] at hv
  | a :: ts, hv, ht => fun w hw => by
    simp only [tnas] at ht
    simp only [tvss, List.mem_append] at hv
    simp only [apFs, tvss, List.mem_append]
    rcases hv with hv | hv
    · exact .inl (tvs_apF a hv ht.1 w hw)
    · exact .inr (tvss_apF ts hv ht.2 w hw)
end
section
variable {a b : TType} {σ : List TBinding}
/-- The names that come up at a pair. -/
def VV (a b : TType) : List (List UInt8) := varsT a [] ++ varsT b []
theorem good_l {a b : TType} (ho : tok a) (hs : tnd a ≤ 4000) : Good (VV a b) a := ⟨fun v hv => List.mem_append.2 (.inl (vars_in a v hv)), hs, ho⟩
theorem good_r {a b : TType} (ho : tok b) (hs : tnd b ≤ 4000) : Good (VV a b) b := ⟨fun v hv => List.mem_append.2 (.inr (vars_in b v hv)), hs, ho⟩
theorem ren_few (a b : TType) (n : Nat) (h : (varsT b []).length ≤ n) : (varsT (apT (rn2 a b) b) []).length ≤ n := by
  have := vars_few (t := apT (rn2 a b) b) (V := (varsT b []).map (phi (rn2 a b))) (fun w hw => by
    obtain ⟨v, h1, h2⟩ := ren_tvs (vars_in b) w hw
    rw [h2]
    exact List.mem_map_of_mem h1)
  rw [List.length_map] at this
  omega
/-- A pattern, its instance renamed. -/
theorem instL (na : tna a) (hb : b = apT σ a) (h : Fit a b) : Res 50000 [a] [apT (rn2 a b) b] True := by
  have hs := ren_size (va := varsT a []) (vb := varsT b []) b
  have e1 : a = apF (fun v => vr (id v)) a := (apF_vr a na).symm
  have e2 : apT (rn2 a b) b = apF (fun v => apT (rn2 a b) (apT σ (vr v))) a := by rw [hb, apF_ap σ a na, apT_apF]; rfl
  have hin : ∀ v ∈ tvs a, ∀ w ∈ tvs (apT σ (vr v)), w ∈ tvs b := fun v hv w hw => by
    rw [hb, apF_ap σ a na]
    exact tvs_apF a hv na w hw
  have D : Dir (varsT a []) (fun v => apT (rn2 a b) (apT σ (vr v))) id := by
    refine ⟨fun u hu v hv hm => ?_, fun u _ v _ e => e⟩
    obtain ⟨w, h1, h2⟩ := ren_tvs (va := varsT a []) (vb := varsT b []) (fun x hx => vars_in b x (hin v (varsT_sub a v hv) x hx)) (id u) hm
    have := (renOf_ren (varsT a []) (varsT b [])).fresh h1
    rw [← h2] at this
    exact this hu
  have hV : (VV a (apT (rn2 a b) b)).length ≤ 8 := by
    have c1 := h.ca
    have c2 := ren_few a b 4 h.cb
    simp only [VV, List.length_append]
    omega
  obtain ⟨C, S⟩ := dirL hV D
  have sa := h.sa
  have sb := h.sb
  have ob' : tok (apT (rn2 a b) b) := apT_tok (renOf_bok _ _) _ h.ob
  refine Res.weak (resC C (as_ := [a]) (bs := [apT (rn2 a b) b]) (RD.nil _ _ _) 50000 rfl ⟨⟨⟨good_l h.oa (by omega), good_r ob' (by unfold rn2; omega)⟩, a, na, fun v hv => vars_in a v hv, ?_, by rw [← e1], by rw [← e2]⟩, fun _ _ _ _ => trivial⟩ ?_) (fun _ => S)
  · rw [← e2]; unfold rn2; omega
  · have : (VV a (apT (rn2 a b) b)).length * 4001 ≤ 8 * 4001 := Nat.mul_le_mul_right _ hV
    simp only [tnds]
    omega
/-- An instance, its pattern renamed. -/
theorem instR (na : tna a) (hb : b = apT σ a) (h : Fit b a) : Res 50000 [b] [apT (rn2 b a) a] True := by
  have R := renOf_ren (varsT b []) (varsT a [])
  have hs := ren_size (va := varsT b []) (vb := varsT a []) a
  have e1 : b = apF (fun v => apT σ (vr v)) a := by rw [hb]; exact apF_ap σ a na
  have e2 : apT (rn2 b a) a = apF (fun v => vr (phi (rn2 b a) v)) a := R.ap na (fun v hv => vars_in a v hv)
  have hin : ∀ v ∈ tvs a, ∀ w ∈ tvs (apT σ (vr v)), w ∈ tvs b := fun v hv w hw => by
    rw [e1]
    exact tvs_apF a hv na w hw
  have D : Dir (varsT a []) (fun v => apT σ (vr v)) (phi (rn2 b a)) :=
    ⟨fun u hu v hv hm => R.fresh hu (vars_in b _ (hin v (varsT_sub a v hv) _ hm)), fun u hu v hv e => R.inj2 hu hv e⟩
  have hV : (VV b (apT (rn2 b a) a)).length ≤ 8 := by
    have c1 := h.ca
    have c2 := ren_few b a 4 h.cb
    simp only [VV, List.length_append]
    omega
  obtain ⟨C, S⟩ := dirR hV D
  have sa := h.sa
  have sb := h.sb
  have ob' : tok (apT (rn2 b a) a) := apT_tok (renOf_bok _ _) _ h.ob
  refine Res.weak (resC C (as_ := [b]) (bs := [apT (rn2 b a) a]) (RD.nil _ _ _) 50000 rfl ⟨⟨⟨good_l h.oa (by omega), good_r ob' (by unfold rn2; omega)⟩, a, na, fun v hv => vars_in a v hv, ?_, by rw [← e1], by rw [← e2]⟩, fun _ _ _ _ => trivial⟩ ?_) (fun _ => S)
  · rw [← e1]; omega
  · have : (VV b (apT (rn2 b a) a)).length * 4001 ≤ 8 * 4001 := Nat.mul_le_mul_right _ hV
    simp only [tnds]
    omega
theorem ren_tna (nb : tna b) : tna (apT (rn2 a b) b) := apT_tna (fun c hc => by obtain ⟨s, hs⟩ := renOf_rng _ _ c hc; rw [hs]; simp [vr, tna, tnas]) b nb
/-- Two that meet in something small. -/
theorem small {f g : List UInt8 → TType} (na : tna a) (nb : tna b) (h : Fit a b) (e : apF f a = apF g b) (hs : tnd (apF f a) ≤ 2000) : ∃ v, Ver a (apT (rn2 a b) b) v ∧ v = true := by
  obtain ⟨s, s1, s2⟩ := meet_sol (renOf_ren (varsT a []) (varsT b [])) na nb (vars_in a) (vars_in b) e
  have hz := ren_size (va := varsT a []) (vb := varsT b []) b
  have hV : (VV a (apT (rn2 a b) b)).length ≤ 8 := by
    have c1 := h.ca
    have c2 := ren_few a b 4 h.cb
    simp only [VV, List.length_append]
    omega
  have sa := h.sa
  have sb := h.sb
  have ob' : tok (apT (rn2 a b) b) := apT_tok (renOf_bok _ _) _ h.ob
  have hR := resC (solCtl (VV a (apT (rn2 a b) b)) hV s) (as_ := [a]) (bs := [apT (rn2 a b) b]) ⟨.nil s, tnaB_nil⟩ 50000 rfl ⟨⟨⟨good_l h.oa (by omega), good_r ob' (by unfold rn2; omega)⟩, na, ren_tna nb, s1.trans s2.symm, by rw [s1]; exact hs⟩, fun _ _ _ _ => trivial⟩ (by
    have : (VV a (apT (rn2 a b) b)).length * 4001 ≤ 8 * 4001 := Nat.mul_le_mul_right _ hV
    simp only [tnds]
    omega)
  obtain ⟨v, h1, _, h3, _⟩ := verdict hR
  exact ⟨v, h1, h3 na (ren_tna nb) s (s1.trans s2.symm)⟩
theorem Fr.ren (h : Fr 3 b) : Fr 3 (apT (rn2 a b) b) := by
  have hv : ∀ {d : Nat} {t : TType}, Ty2 d t → (∀ v ∈ tvs t, v ∈ tvs b) → Ty2 d (apT (rn2 a b) t) := fun ht hs => by
    have := ht.ap (s := rn2 a b) (e := 0) (fun v hv => by
      have := (renOf_ren (varsT a []) (varsT b [])).var (vars_in b v (hs v hv))
      rw [show apT (rn2 a b) (vr v) = _ from this]
      exact .var _)
    simpa using this
  cases h with
  | ty h => exact .ty (hv h (fun v hv => hv))
  | proj s h =>
    rw [apT_con _ _ _ _ (by decide)]
    exact .proj s (hv h (fun v hv => by simp [tvs, tvss, hv]))
  | lproj s r h =>
    rw [apT_con _ _ _ _ (by decide)]
    simp only [apTs]
    rw [apT_con _ _ _ _ (by decide)]
    exact .lproj s r (hv h (fun v hv => by simp [tvs, tvss, hv]))
  | dyn s =>
    rw [apT_con _ _ _ _ (by decide)]
    exact .dyn s
/-- Two free types. -/
theorem freeV (ha : Fr 3 a) (hb : Fr 3 b) (h : Fit a b) (ca : (varsT a []).length ≤ 2) (cb : (varsT b []).length ≤ 2) : ∃ v, Ver a (apT (rn2 a b) b) v ∧ (v = true ↔ Meet a b) := by
  have na := ha.tna
  have nb := hb.tna
  have hz := ren_size (va := varsT a []) (vb := varsT b []) b
  have hV : (VV a (apT (rn2 a b) b)).length ≤ 4 := by
    have c2 := ren_few a b 2 cb
    simp only [VV, List.length_append]
    omega
  have sa := h.sa
  have sb := h.sb
  have ob' : tok (apT (rn2 a b) b) := apT_tok (renOf_bok _ _) _ h.ob
  have hR := root hV 30000 (a := a) (b := apT (rn2 a b) b) (by omega) ha hb.ren (good_l h.oa (by omega)) (good_r ob' (by unfold rn2; omega)) (by unfold rn2; omega)
  obtain ⟨v, h1, h2, h3, _⟩ := verdict hR
  refine ⟨v, h1, fun hv => ?_, fun hm => ?_⟩
  · obtain ⟨l, hl⟩ := h2 hv
    exact sol_meet (renOf_ren (varsT a []) (varsT b [])) na nb (vars_in b) hl
  · obtain ⟨f, g, e⟩ := hm
    obtain ⟨s, s1, s2⟩ := meet_sol (renOf_ren (varsT a []) (varsT b [])) na nb (vars_in a) (vars_in b) e
    exact h3 na (ren_tna nb) s (s1.trans s2.symm)
end

end Go.Proofs.Ytopgfacbgbmloaa
