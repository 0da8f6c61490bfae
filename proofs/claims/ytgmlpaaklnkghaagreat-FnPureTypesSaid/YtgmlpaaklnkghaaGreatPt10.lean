/- Pt10. Written by a program of mine (aw.py). -/
import Derived.Test.YtgmlpaaklnkghaaGreatEng39
import Derived.Test.YtgmlpaaklnkghaaGreatPt5
import Derived.Test.YtgmlpaaklnkghaaGreatPt7
import Derived.Test.YtgmlpaaklnkghaaGreatPt8
import Derived.Test.YtgmlpaaklnkghaaGreatPt9
set_option linter.unusedVariables false
set_option linter.unusedSimpArgs false
set_option linter.unusedSectionVars false
namespace Go.Proofs.YtgmlpaaklnkghaaGreat
open Go Go.Eng
attribute [local irreducible] V VO VQ VY Quiet QR SpecP SpecO Rng PostP PostO PostG
def b_big (a0 : List UInt8) : Bool :=
(decide ((a0.length : Int) > 1048576))
set_option maxHeartbeats 4000000 in
theorem w_big (a0 : List UInt8) : SpecP Tryz.prog 4 [.d (.sl 1 (eBytes a0))] [.b (b_big a0)] := by
  obtain ⟨r, h⟩ : ∃ r, b_big a0 = r := ⟨_, rfl⟩
  rw [h]
  unfold b_big at h
  refine SpecP_intro Tryz.func4 rfl (by kernel_rfl) rfl fun A _ => ?_
  refine goL ?_
  refine V_ret ?_
  subst h
  exact R_rP
def b_drawApply (a0 : List UInt8) : Option (List TBinding × TType) :=
lt_ (l1NewT a0) fun x1 =>
bnd (l6BindsT x1) fun x2 =>
bnd (b_l4Bent x2.2) fun x3 =>
(some (x2.1, x3.1))
set_option maxHeartbeats 4000000 in
theorem w_drawApply (a0 : List UInt8) {r : List TBinding × TType} (h : b_drawApply a0 = some r) : SpecP Tryz.prog 5 [.d (.sl 1 (eBytes a0))] [.sl 4 (eBindings r.1), eType r.2] := by
  unfold b_drawApply at h
  refine SpecP_intro Tryz.func5 rfl (by kernel_rfl) rfl fun A _ => ?_
  refine goL ?_
  obtain ⟨x1, hx1, h⟩ := lt_x h
  obtain ⟨x1_0, x1_1, x1_2⟩ := x1
  have sx1 := t_l1New a0
  rw [hx1] at sx1
  refine VO_cG [] (sx1) ?_
  rintro _ _ ⟨rfl, rfl⟩
  show VO _ _ _ _ ⟨(_, .ptr 1 0) :: _, [.box [.d (.i .i64 0), .d (.s []), .nilsl], .box [.d (.sl 1 (eBytes x1_0)), .d (.i .i64 x1_1), .d (.i .i64 x1_2)]], _⟩ _
  refine goL ?_
  obtain ⟨x2, hx2, h⟩ := bnd_s h
  obtain ⟨x2_0, ⟨x2_1_0, x2_1_1, x2_1_2⟩⟩ := x2
  refine VO_cG [1] (t_l6Binds (Tl1Cur.mk x1_0 x1_1 x1_2) hx2) ?_
  rintro _ _ ⟨rfl, rfl⟩
  show VO _ _ _ _ ⟨(_, .d (.sl 4 (eBindings x2_0))) :: _, [.box [.d (.i .i64 0), .d (.s []), .nilsl], .box [.d (.sl 1 (eBytes x2_1_0)), .d (.i .i64 x2_1_1), .d (.i .i64 x2_1_2)]], _⟩ _
  refine goL ?_
  obtain ⟨x3, hx3, h⟩ := bnd_s h
  obtain ⟨⟨x3_0_0, x3_0_1, x3_0_2⟩, ⟨x3_1_0, x3_1_1, x3_1_2⟩⟩ := x3
  refine VO_cG [1] (w_l4Bent (Tl1Cur.mk x2_1_0 x2_1_1 x2_1_2) hx3) ?_
  rintro _ _ ⟨rfl, rfl⟩
  show VO _ _ _ _ ⟨(_, .d (.st [.i .i64 x3_0_0, .s x3_0_1, .sl 3 (eTypes x3_0_2)])) :: _, [.box [.d (.i .i64 0), .d (.s []), .nilsl], .box [.d (.sl 1 (eBytes x3_1_0)), .d (.i .i64 x3_1_1), .d (.i .i64 x3_1_2)]], _⟩ _
  refine goL ?_
  refine V_ret ?_
  replace h := Option.some.inj h
  subst h
  exact R_rP
def b_l8Two (a0 : List UInt8) : Option (TType × TType) :=
lt_ (l1NewT a0) fun x1 =>
bnd (b_l4Free x1 3) fun x2 =>
bnd (b_l4Free x2.2 3) fun x3 =>
bnd (b_l1Below x3.2 4) fun x4 =>
(cnd (x4.1 == 0) (
bnd (l6BindsT x4.2) fun x6 =>
gd (bok x6.1 ∧ tok x2.1) (lt_ (apT x6.1 x2.1) fun x8 =>
(some (x2.1, x8)))) (
(cnd (x4.1 == 1) (
bnd (m_l4Ty 8 x4.2 [[97], [98], [99], [100]] 3) fun x10 =>
bnd (m_l4Ty 8 x10.2 [[98]] 1) fun x11 =>
gd (bok [(TBinding.mk [97] x11.1)] ∧ tok x10.1) (lt_ (apT [(TBinding.mk [97] x11.1)] x10.1) fun x13 =>
bnd (m_l4Ty 8 x11.2 [[100]] 1) fun x14 =>
gd (bok [(TBinding.mk [99] x14.1)] ∧ tok x10.1) (lt_ (apT [(TBinding.mk [99] x14.1)] x10.1) fun x16 =>
(some (x13, x16))))) (
(some (x2.1, x3.1))))))
set_option maxHeartbeats 4000000 in
theorem w_l8Two (a0 : List UInt8) {r : TType × TType} (h : b_l8Two a0 = some r) : SpecP Tryz.prog 18 [.d (.sl 1 (eBytes a0))] [eType r.1, eType r.2] := by
  unfold b_l8Two at h
  refine SpecP_intro Tryz.func18 rfl (by kernel_rfl) rfl fun A _ => ?_
  refine goL ?_
  obtain ⟨x1, hx1, h⟩ := lt_x h
  obtain ⟨x1_0, x1_1, x1_2⟩ := x1
  have sx1 := t_l1New a0
  rw [hx1] at sx1
  refine VO_cG [] (sx1) ?_
  rintro _ _ ⟨rfl, rfl⟩
  show VO _ _ _ _ ⟨(_, .ptr 2 0) :: _, [.box [.d (.i .i64 0), .d (.s []), .nilsl], .box [.d (.i .i64 0), .d (.s []), .nilsl], .box [.d (.sl 1 (eBytes x1_0)), .d (.i .i64 x1_1), .d (.i .i64 x1_2)]], _⟩ _
  refine goL ?_
  obtain ⟨x2, hx2, h⟩ := bnd_s h
  obtain ⟨⟨x2_0_0, x2_0_1, x2_0_2⟩, ⟨x2_1_0, x2_1_1, x2_1_2⟩⟩ := x2
  refine VO_cG [2] (w_l4Free (Tl1Cur.mk x1_0 x1_1 x1_2) 3 hx2) ?_
  rintro _ _ ⟨rfl, rfl⟩
  show VO _ _ _ _ ⟨(_, .d (.st [.i .i64 x2_0_0, .s x2_0_1, .sl 3 (eTypes x2_0_2)])) :: _, [.box [.d (.i .i64 0), .d (.s []), .nilsl], .box [.d (.i .i64 0), .d (.s []), .nilsl], .box [.d (.sl 1 (eBytes x2_1_0)), .d (.i .i64 x2_1_1), .d (.i .i64 x2_1_2)]], _⟩ _
  refine goL ?_
  obtain ⟨x3, hx3, h⟩ := bnd_s h
  obtain ⟨⟨x3_0_0, x3_0_1, x3_0_2⟩, ⟨x3_1_0, x3_1_1, x3_1_2⟩⟩ := x3
  refine VO_cG [2] (w_l4Free (Tl1Cur.mk x2_1_0 x2_1_1 x2_1_2) 3 hx3) ?_
  rintro _ _ ⟨rfl, rfl⟩
  show VO _ _ _ _ ⟨(_, .d (.st [.i .i64 x3_0_0, .s x3_0_1, .sl 3 (eTypes x3_0_2)])) :: _, [.box [.d (.i .i64 0), .d (.s []), .nilsl], .box [.d (.i .i64 0), .d (.s []), .nilsl], .box [.d (.sl 1 (eBytes x3_1_0)), .d (.i .i64 x3_1_1), .d (.i .i64 x3_1_2)], .box [.d (.i .i64 x2_0_0), .d (.s x2_0_1), .d (.sl 3 (eTypes x2_0_2))]], _⟩ _
  refine goL ?_
  obtain ⟨x4, hx4, h⟩ := bnd_s h
  obtain ⟨x4_0, ⟨x4_1_0, x4_1_1, x4_1_2⟩⟩ := x4
  refine VO_cG [2] (w_l1Below (Tl1Cur.mk x3_1_0 x3_1_1 x3_1_2) 4 hx4) ?_
  rintro _ _ ⟨rfl, rfl⟩
  show VO _ _ _ _ ⟨(_, .d (.i .i64 x4_0)) :: _, [.box [.d (.i .i64 0), .d (.s []), .nilsl], .box [.d (.i .i64 0), .d (.s []), .nilsl], .box [.d (.sl 1 (eBytes x4_1_0)), .d (.i .i64 x4_1_1), .d (.i .i64 x4_1_2)], .box [.d (.i .i64 x2_0_0), .d (.s x2_0_1), .d (.sl 3 (eTypes x2_0_2))], .box [.d (.i .i64 x3_0_0), .d (.s x3_0_1), .d (.sl 3 (eTypes x3_0_2))]], _⟩ _
  refine goL ?_
  refine V_block ?_
  refine goL ?_
  refine V_cb (fun c5 => ?_) (fun c5 => ?_)
  · replace h := cnd_t c5 h
    obtain ⟨x6, hx6, h⟩ := bnd_s h
    obtain ⟨x6_0, ⟨x6_1_0, x6_1_1, x6_1_2⟩⟩ := x6
    obtain ⟨g7, h⟩ := gd_s h
    obtain ⟨x8, hx8, h⟩ := lt_x h
    obtain ⟨x8_0, x8_1, x8_2⟩ := x8
    have sx8 := t_sApply x6_0 (TType.mk x2_0_0 x2_0_1 x2_0_2) g7
    rw [hx8] at sx8
    refine V_drawTJ (P := Tryz.prog) Mix.h (.q 0 (.h 1 (.h 2 (.h 3 (.h 4 .nil .nil) .nil) .nil) (.h 2 (.h 1 (.h 3 (.h 4 .nil .nil) .nil) .nil) .nil))) ⟨[(2, .ptr 0 0), (3, .ptr 1 0), (5, .ptr 3 0), (6, .ptr 4 0)], [.box [.d (.i .i64 0), .d (.s []), .nilsl], .box [.d (.i .i64 0), .d (.s []), .nilsl], .box [.d (.sl 1 (eBytes x6_1_0)), .d (.i .i64 x6_1_1), .d (.i .i64 x6_1_2)], .box [.d (.i .i64 x2_0_0), .d (.s x2_0_1), .d (.sl 3 (eTypes x2_0_2))], .box [.d (.i .i64 x8_0), .d (.s x8_1), .sl 5 0], .own 27 3 0 (eTypes x8_2)], Tryz.f18.ntmps⟩ (by kernel_rfl) ?_ ?_
    · refine goT ?_
      refine VT_h (VY_cG (sv := .d (.sl 4 (eBindings x6_0))) (L' := [.box [.d (.i .i64 0), .d (.s []), .nilsl], .box [.d (.i .i64 0), .d (.s []), .nilsl], .box [.d (.sl 1 (eBytes x6_1_0)), .d (.i .i64 x6_1_1), .d (.i .i64 x6_1_2)], .box [.d (.i .i64 x2_0_0), .d (.s x2_0_1), .d (.sl 3 (eTypes x2_0_2))], .box [.d (.i .i64 x3_0_0), .d (.s x3_0_1), .d (.sl 3 (eTypes x3_0_2))]]) [2] (t_l6Binds (Tl1Cur.mk x4_1_0 x4_1_1 x4_1_2) hx6) VY_e) ?_ ?_
      · refine VT_h1 (VY_dh VY_e) ?_
        refine VT_h1 (VY_co (sx8) VY_e) ?_
        refine goT ?_
        refine VT_nil ?_
        exact R_pk 0 [0, 1, 2, 3, 4, 5]
      refine VT_h1 (VY_dh VY_e) ?_
      refine VT_h1 (VY_cG (sv := .d (.sl 4 (eBindings x6_0))) (L' := [.box [.d (.i .i64 0), .d (.s []), .nilsl], .box [.d (.i .i64 0), .d (.s []), .nilsl], .box [.d (.sl 1 (eBytes x6_1_0)), .d (.i .i64 x6_1_1), .d (.i .i64 x6_1_2)], .box [.d (.i .i64 x2_0_0), .d (.s x2_0_1), .d (.sl 3 (eTypes x2_0_2))], .box [.d (.i .i64 x3_0_0), .d (.s x3_0_1), .d (.sl 3 (eTypes x3_0_2))]]) [2] (t_l6Binds (Tl1Cur.mk x4_1_0 x4_1_1 x4_1_2) hx6) VY_e) ?_
      refine VT_h1 (VY_co (sx8) VY_e) ?_
      refine goT ?_
      refine VT_nil ?_
      exact R_pk 0 [0, 1, 2, 3, 4, 5]
    refine goNL ?_
    refine V_seq_drawTJ (P := Tryz.prog) Mix.h (.h 0 (.h 1 (.h 2 (.h 3 .nil .nil) .nil) (.h 2 (.h 1 (.h 3 .nil .nil) .nil) .nil)) (.h 1 (.h 0 (.h 2 (.h 3 .nil .nil) .nil) .nil) .nil)) ⟨[(2, .ptr 0 0), (3, .ptr 1 0)], [.box [.d (.i .i64 x2_0_0), .d (.s x2_0_1), .d (.sl 3 (eTypes x2_0_2))], .box [.d (.i .i64 x8_0), .d (.s x8_1), .sl 5 0], .box [.d (.sl 1 (eBytes x6_1_0)), .d (.i .i64 x6_1_1), .d (.i .i64 x6_1_2)], .box [.d (.i .i64 x2_0_0), .d (.s x2_0_1), .d (.sl 3 (eTypes x2_0_2))], .box [.d (.i .i64 x8_0), .d (.s x8_1), .sl 5 0], .own 27 3 0 (eTypes x8_2)], Tryz.f18.ntmps⟩ (by kernel_rfl) ?_ ?_
    · refine VT_h (VY_dh VY_e) ?_ ?_
      · refine VT_h (VY_dh VY_e) ?_ ?_
        · refine goT ?_
          refine VT_nil ?_
          exact R_pk 0 [0, 1, 2, 3, 4, 5]
        refine goT ?_
        refine VT_h1 (VY_dh VY_e) ?_
        refine goT ?_
        refine VT_nil ?_
        exact R_pk 0 [0, 1, 2, 3, 4, 5]
      refine VT_h1 (VY_dh VY_e) ?_
      refine VT_h1 (VY_dh VY_e) ?_
      refine goT ?_
      refine VT_nil ?_
      exact R_pk 0 [0, 1, 2, 3, 4, 5]
    refine goL ?_
    refine V_freezeO 5 rfl rfl ?_
    refine V_ret ?_
    replace h := Option.some.inj h
    subst h
    exact R_rP
  · replace h := cnd_f c5 h
    refine goL ?_
    refine V_cb (fun c9 => ?_) (fun c9 => ?_)
    · replace h := cnd_t c9 h
      refine goL ?_
      refine VO_lb (us := eStrs [[97], [98], [99], [100]]) ?_
      refine VO_freeze 5 rfl rfl ?_
      obtain ⟨x10, hx10, h⟩ := bnd_s h
      obtain ⟨⟨x10_0_0, x10_0_1, x10_0_2⟩, ⟨x10_1_0, x10_1_1, x10_1_2⟩⟩ := x10
      refine VO_cG [2] (s_l4Ty 8 (Tl1Cur.mk x4_1_0 x4_1_1 x4_1_2) [[97], [98], [99], [100]] 3 hx10) ?_
      rintro _ _ ⟨rfl, rfl⟩
      show VO _ _ _ _ ⟨(_, .d (.st [.i .i64 x10_0_0, .s x10_0_1, .sl 3 (eTypes x10_0_2)])) :: _, [.box [.d (.i .i64 0), .d (.s []), .nilsl], .box [.d (.i .i64 0), .d (.s []), .nilsl], .box [.d (.sl 1 (eBytes x10_1_0)), .d (.i .i64 x10_1_1), .d (.i .i64 x10_1_2)], .box [.d (.i .i64 x2_0_0), .d (.s x2_0_1), .d (.sl 3 (eTypes x2_0_2))], .box [.d (.i .i64 x3_0_0), .d (.s x3_0_1), .d (.sl 3 (eTypes x3_0_2))], .frz 9 1 0 (eStrs [[97], [98], [99], [100]])], _⟩ _
      refine goNL ?_
      obtain ⟨x11, hx11, h⟩ := bnd_s h
      obtain ⟨⟨x11_0_0, x11_0_1, x11_0_2⟩, ⟨x11_1_0, x11_1_1, x11_1_2⟩⟩ := x11
      obtain ⟨g12, h⟩ := gd_s h
      obtain ⟨x13, hx13, h⟩ := lt_x h
      obtain ⟨x13_0, x13_1, x13_2⟩ := x13
      have sx13 := t_sApply [(TBinding.mk [97] (TType.mk x11_0_0 x11_0_1 x11_0_2))] (TType.mk x10_0_0 x10_0_1 x10_0_2) g12
      rw [hx13] at sx13
      refine V_seq_drawTJ (P := Tryz.prog) Mix.h (.q 0 (.h 1 (.h 2 (.q 3 (.h 4 (.h 5 (.h 6 (.h 7 .nil .nil) .nil) .nil) (.h 5 (.h 4 (.h 6 (.h 7 .nil .nil) .nil) .nil) .nil))) (.h 5 (.h 2 (.q 3 (.h 4 (.h 6 (.h 7 .nil .nil) .nil) .nil)) .nil) .nil)) (.h 5 (.h 1 (.h 2 (.q 3 (.h 4 (.h 6 (.h 7 .nil .nil) .nil) .nil)) .nil) .nil) .nil))) ⟨[(2, .ptr 0 0), (3, .ptr 1 0), (4, .ptr 2 0), (5, .ptr 3 0), (6, .ptr 4 0), (7, .ptr 6 0)], [.box [.d (.i .i64 0), .d (.s []), .nilsl], .box [.d (.i .i64 0), .d (.s []), .nilsl], .box [.d (.sl 1 (eBytes x11_1_0)), .d (.i .i64 x11_1_1), .d (.i .i64 x11_1_2)], .box [.d (.i .i64 x13_0), .d (.s x13_1), .sl 9 0], .box [.d (.i .i64 x3_0_0), .d (.s x3_0_1), .d (.sl 3 (eTypes x3_0_2))], .frz 9 1 0 (eStrs [[97], [98], [99], [100]]), .box [.d (.i .i64 x10_0_0), .d (.s x10_0_1), .d (.sl 3 (eTypes x10_0_2))], .frz 9 1 0 (eStrs [[98]]), .arr 37 4 0 (eBindings [(TBinding.mk [97] (TType.mk x11_0_0 x11_0_1 x11_0_2))]), .own 27 3 0 (eTypes x13_2)], Tryz.f18.ntmps⟩ (by kernel_rfl) ?_ ?_
      · refine goT ?_
        refine VT_h (VY_l1t (T := 69) ([98] : List UInt8) VY_e) ?_ ?_
        · refine VT_h (VY_frzO 7 rfl rfl (VY_cG (sv := .d (.st [.i .i64 x11_0_0, .s x11_0_1, .sl 3 (eTypes x11_0_2)])) (L' := [.box [.d (.i .i64 0), .d (.s []), .nilsl], .box [.d (.i .i64 0), .d (.s []), .nilsl], .box [.d (.sl 1 (eBytes x11_1_0)), .d (.i .i64 x11_1_1), .d (.i .i64 x11_1_2)], .box [.d (.i .i64 x2_0_0), .d (.s x2_0_1), .d (.sl 3 (eTypes x2_0_2))], .box [.d (.i .i64 x3_0_0), .d (.s x3_0_1), .d (.sl 3 (eTypes x3_0_2))], .frz 9 1 0 (eStrs [[97], [98], [99], [100]]), .box [.d (.i .i64 x10_0_0), .d (.s x10_0_1), .d (.sl 3 (eTypes x10_0_2))], .frz 9 1 0 (eStrs [[98]])]) [2] (s_l4Ty 8 (Tl1Cur.mk x10_1_0 x10_1_1 x10_1_2) [[98]] 1 hx11) VY_e)) ?_ ?_
          · refine goT ?_
            refine VT_h (VY_lb (T := 24) (us := eBindings [(TBinding.mk [97] (TType.mk x11_0_0 x11_0_1 x11_0_2))]) VY_e) ?_ ?_
            · refine VT_h1 (VY_dh VY_e) ?_
              refine VT_h1 (VY_co (sx13) VY_e) ?_
              refine goT ?_
              refine VT_nil ?_
              exact R_pk 0 [0, 1, 2, 3, 4, 5, 6, 7, 8, 9]
            refine VT_h1 (VY_dh VY_e) ?_
            refine VT_h1 (VY_lb (T := 24) (us := eBindings [(TBinding.mk [97] (TType.mk x11_0_0 x11_0_1 x11_0_2))]) VY_e) ?_
            refine VT_h1 (VY_co (sx13) VY_e) ?_
            refine goT ?_
            refine VT_nil ?_
            exact R_pk 0 [0, 1, 2, 3, 4, 5, 6, 7, 8, 9]
          refine VT_h1 (VY_dh VY_e) ?_
          refine VT_h1 (VY_frzO 7 rfl rfl (VY_cG (sv := .d (.st [.i .i64 x11_0_0, .s x11_0_1, .sl 3 (eTypes x11_0_2)])) (L' := [.box [.d (.i .i64 0), .d (.s []), .nilsl], .box [.d (.i .i64 0), .d (.s []), .nilsl], .box [.d (.sl 1 (eBytes x11_1_0)), .d (.i .i64 x11_1_1), .d (.i .i64 x11_1_2)], .box [.d (.i .i64 x2_0_0), .d (.s x2_0_1), .d (.sl 3 (eTypes x2_0_2))], .box [.d (.i .i64 x3_0_0), .d (.s x3_0_1), .d (.sl 3 (eTypes x3_0_2))], .frz 9 1 0 (eStrs [[97], [98], [99], [100]]), .box [.d (.i .i64 x10_0_0), .d (.s x10_0_1), .d (.sl 3 (eTypes x10_0_2))], .frz 9 1 0 (eStrs [[98]])]) [2] (s_l4Ty 8 (Tl1Cur.mk x10_1_0 x10_1_1 x10_1_2) [[98]] 1 hx11) VY_e)) ?_
          refine goT ?_
          refine VT_h1 (VY_lb (T := 24) (us := eBindings [(TBinding.mk [97] (TType.mk x11_0_0 x11_0_1 x11_0_2))]) VY_e) ?_
          refine VT_h1 (VY_co (sx13) VY_e) ?_
          refine goT ?_
          refine VT_nil ?_
          exact R_pk 0 [0, 1, 2, 3, 4, 5, 6, 7, 8, 9]
        refine VT_h1 (VY_dh VY_e) ?_
        refine VT_h1 (VY_l1t (T := 69) ([98] : List UInt8) VY_e) ?_
        refine VT_h1 (VY_frzO 7 rfl rfl (VY_cG (sv := .d (.st [.i .i64 x11_0_0, .s x11_0_1, .sl 3 (eTypes x11_0_2)])) (L' := [.box [.d (.i .i64 0), .d (.s []), .nilsl], .box [.d (.i .i64 0), .d (.s []), .nilsl], .box [.d (.sl 1 (eBytes x11_1_0)), .d (.i .i64 x11_1_1), .d (.i .i64 x11_1_2)], .box [.d (.i .i64 x2_0_0), .d (.s x2_0_1), .d (.sl 3 (eTypes x2_0_2))], .box [.d (.i .i64 x3_0_0), .d (.s x3_0_1), .d (.sl 3 (eTypes x3_0_2))], .frz 9 1 0 (eStrs [[97], [98], [99], [100]]), .box [.d (.i .i64 x10_0_0), .d (.s x10_0_1), .d (.sl 3 (eTypes x10_0_2))], .frz 9 1 0 (eStrs [[98]])]) [2] (s_l4Ty 8 (Tl1Cur.mk x10_1_0 x10_1_1 x10_1_2) [[98]] 1 hx11) VY_e)) ?_
        refine goT ?_
        refine VT_h1 (VY_lb (T := 24) (us := eBindings [(TBinding.mk [97] (TType.mk x11_0_0 x11_0_1 x11_0_2))]) VY_e) ?_
        refine VT_h1 (VY_co (sx13) VY_e) ?_
        refine goT ?_
        refine VT_nil ?_
        exact R_pk 0 [0, 1, 2, 3, 4, 5, 6, 7, 8, 9]
      refine goNL ?_
      obtain ⟨x14, hx14, h⟩ := bnd_s h
      obtain ⟨⟨x14_0_0, x14_0_1, x14_0_2⟩, ⟨x14_1_0, x14_1_1, x14_1_2⟩⟩ := x14
      obtain ⟨g15, h⟩ := gd_s h
      obtain ⟨x16, hx16, h⟩ := lt_x h
      obtain ⟨x16_0, x16_1, x16_2⟩ := x16
      have sx16 := t_sApply [(TBinding.mk [99] (TType.mk x14_0_0 x14_0_1 x14_0_2))] (TType.mk x10_0_0 x10_0_1 x10_0_2) g15
      rw [hx16] at sx16
      refine V_drawTJ (P := Tryz.prog) Mix.h (.q 0 (.h 1 (.h 2 (.q 3 (.h 4 (.h 5 (.h 6 (.h 7 .nil .nil) .nil) .nil) (.h 5 (.h 4 (.h 6 (.h 7 .nil .nil) .nil) .nil) .nil))) (.h 5 (.h 2 (.q 3 (.h 4 (.h 6 (.h 7 .nil .nil) .nil) .nil)) .nil) .nil)) (.h 5 (.h 1 (.h 2 (.q 3 (.h 4 (.h 6 (.h 7 .nil .nil) .nil) .nil)) .nil) .nil) .nil))) ⟨[(2, .ptr 0 0), (3, .ptr 1 0), (5, .ptr 3 0), (6, .ptr 4 0)], [.box [.d (.i .i64 0), .d (.s []), .nilsl], .box [.d (.i .i64 0), .d (.s []), .nilsl], .box [.d (.sl 1 (eBytes x14_1_0)), .d (.i .i64 x14_1_1), .d (.i .i64 x14_1_2)], .box [.d (.i .i64 x13_0), .d (.s x13_1), .sl 9 0], .box [.d (.i .i64 x16_0), .d (.s x16_1), .sl 12 0], .frz 9 1 0 (eStrs [[97], [98], [99], [100]]), .box [.d (.i .i64 x10_0_0), .d (.s x10_0_1), .d (.sl 3 (eTypes x10_0_2))], .frz 9 1 0 (eStrs [[98]]), .arr 37 4 0 (eBindings [(TBinding.mk [97] (TType.mk x11_0_0 x11_0_1 x11_0_2))]), .own 27 3 0 (eTypes x13_2), .frz 9 1 0 (eStrs [[100]]), .arr 37 4 0 (eBindings [(TBinding.mk [99] (TType.mk x14_0_0 x14_0_1 x14_0_2))]), .own 27 3 0 (eTypes x16_2)], Tryz.f18.ntmps⟩ (by kernel_rfl) ?_ ?_
      · refine goT ?_
        refine VT_h (VY_l1t (T := 69) ([100] : List UInt8) VY_e) ?_ ?_
        · refine VT_h (VY_frzO 10 rfl rfl (VY_cG (sv := .d (.st [.i .i64 x14_0_0, .s x14_0_1, .sl 3 (eTypes x14_0_2)])) (L' := [.box [.d (.i .i64 0), .d (.s []), .nilsl], .box [.d (.i .i64 0), .d (.s []), .nilsl], .box [.d (.sl 1 (eBytes x14_1_0)), .d (.i .i64 x14_1_1), .d (.i .i64 x14_1_2)], .box [.d (.i .i64 x13_0), .d (.s x13_1), .sl 9 0], .box [.d (.i .i64 x3_0_0), .d (.s x3_0_1), .d (.sl 3 (eTypes x3_0_2))], .frz 9 1 0 (eStrs [[97], [98], [99], [100]]), .box [.d (.i .i64 x10_0_0), .d (.s x10_0_1), .d (.sl 3 (eTypes x10_0_2))], .frz 9 1 0 (eStrs [[98]]), .arr 37 4 0 (eBindings [(TBinding.mk [97] (TType.mk x11_0_0 x11_0_1 x11_0_2))]), .own 27 3 0 (eTypes x13_2), .frz 9 1 0 (eStrs [[100]])]) [2] (s_l4Ty 8 (Tl1Cur.mk x11_1_0 x11_1_1 x11_1_2) [[100]] 1 hx14) VY_e)) ?_ ?_
          · refine goT ?_
            refine VT_h (VY_lb (T := 24) (us := eBindings [(TBinding.mk [99] (TType.mk x14_0_0 x14_0_1 x14_0_2))]) VY_e) ?_ ?_
            · refine VT_h1 (VY_dh VY_e) ?_
              refine VT_h1 (VY_co (sx16) VY_e) ?_
              refine goT ?_
              refine VT_nil ?_
              exact R_pk 0 [0, 1, 2, 3, 4, 5, 6, 7, 8, 9, 10, 11, 12]
            refine VT_h1 (VY_dh VY_e) ?_
            refine VT_h1 (VY_lb (T := 24) (us := eBindings [(TBinding.mk [99] (TType.mk x14_0_0 x14_0_1 x14_0_2))]) VY_e) ?_
            refine VT_h1 (VY_co (sx16) VY_e) ?_
            refine goT ?_
            refine VT_nil ?_
            exact R_pk 0 [0, 1, 2, 3, 4, 5, 6, 7, 8, 9, 10, 11, 12]
          refine VT_h1 (VY_dh VY_e) ?_
          refine VT_h1 (VY_frzO 10 rfl rfl (VY_cG (sv := .d (.st [.i .i64 x14_0_0, .s x14_0_1, .sl 3 (eTypes x14_0_2)])) (L' := [.box [.d (.i .i64 0), .d (.s []), .nilsl], .box [.d (.i .i64 0), .d (.s []), .nilsl], .box [.d (.sl 1 (eBytes x14_1_0)), .d (.i .i64 x14_1_1), .d (.i .i64 x14_1_2)], .box [.d (.i .i64 x13_0), .d (.s x13_1), .sl 9 0], .box [.d (.i .i64 x3_0_0), .d (.s x3_0_1), .d (.sl 3 (eTypes x3_0_2))], .frz 9 1 0 (eStrs [[97], [98], [99], [100]]), .box [.d (.i .i64 x10_0_0), .d (.s x10_0_1), .d (.sl 3 (eTypes x10_0_2))], .frz 9 1 0 (eStrs [[98]]), .arr 37 4 0 (eBindings [(TBinding.mk [97] (TType.mk x11_0_0 x11_0_1 x11_0_2))]), .own 27 3 0 (eTypes x13_2), .frz 9 1 0 (eStrs [[100]])]) [2] (s_l4Ty 8 (Tl1Cur.mk x11_1_0 x11_1_1 x11_1_2) [[100]] 1 hx14) VY_e)) ?_
          refine goT ?_
          refine VT_h1 (VY_lb (T := 24) (us := eBindings [(TBinding.mk [99] (TType.mk x14_0_0 x14_0_1 x14_0_2))]) VY_e) ?_
          refine VT_h1 (VY_co (sx16) VY_e) ?_
          refine goT ?_
          refine VT_nil ?_
          exact R_pk 0 [0, 1, 2, 3, 4, 5, 6, 7, 8, 9, 10, 11, 12]
        refine VT_h1 (VY_dh VY_e) ?_
        refine VT_h1 (VY_l1t (T := 69) ([100] : List UInt8) VY_e) ?_
        refine VT_h1 (VY_frzO 10 rfl rfl (VY_cG (sv := .d (.st [.i .i64 x14_0_0, .s x14_0_1, .sl 3 (eTypes x14_0_2)])) (L' := [.box [.d (.i .i64 0), .d (.s []), .nilsl], .box [.d (.i .i64 0), .d (.s []), .nilsl], .box [.d (.sl 1 (eBytes x14_1_0)), .d (.i .i64 x14_1_1), .d (.i .i64 x14_1_2)], .box [.d (.i .i64 x13_0), .d (.s x13_1), .sl 9 0], .box [.d (.i .i64 x3_0_0), .d (.s x3_0_1), .d (.sl 3 (eTypes x3_0_2))], .frz 9 1 0 (eStrs [[97], [98], [99], [100]]), .box [.d (.i .i64 x10_0_0), .d (.s x10_0_1), .d (.sl 3 (eTypes x10_0_2))], .frz 9 1 0 (eStrs [[98]]), .arr 37 4 0 (eBindings [(TBinding.mk [97] (TType.mk x11_0_0 x11_0_1 x11_0_2))]), .own 27 3 0 (eTypes x13_2), .frz 9 1 0 (eStrs [[100]])]) [2] (s_l4Ty 8 (Tl1Cur.mk x11_1_0 x11_1_1 x11_1_2) [[100]] 1 hx14) VY_e)) ?_
        refine goT ?_
        refine VT_h1 (VY_lb (T := 24) (us := eBindings [(TBinding.mk [99] (TType.mk x14_0_0 x14_0_1 x14_0_2))]) VY_e) ?_
        refine VT_h1 (VY_co (sx16) VY_e) ?_
        refine goT ?_
        refine VT_nil ?_
        exact R_pk 0 [0, 1, 2, 3, 4, 5, 6, 7, 8, 9, 10, 11, 12]
      refine goNL ?_
      refine V_seq_drawTJ (P := Tryz.prog) Mix.h (.h 0 (.h 1 (.h 2 (.h 3 .nil .nil) .nil) (.h 2 (.h 1 (.h 3 .nil .nil) .nil) .nil)) (.h 1 (.h 0 (.h 2 (.h 3 .nil .nil) .nil) .nil) .nil)) ⟨[(2, .ptr 0 0), (3, .ptr 1 0)], [.box [.d (.i .i64 x13_0), .d (.s x13_1), .sl 9 0], .box [.d (.i .i64 x16_0), .d (.s x16_1), .sl 12 0], .box [.d (.sl 1 (eBytes x14_1_0)), .d (.i .i64 x14_1_1), .d (.i .i64 x14_1_2)], .box [.d (.i .i64 x13_0), .d (.s x13_1), .sl 9 0], .box [.d (.i .i64 x16_0), .d (.s x16_1), .sl 12 0], .frz 9 1 0 (eStrs [[97], [98], [99], [100]]), .box [.d (.i .i64 x10_0_0), .d (.s x10_0_1), .d (.sl 3 (eTypes x10_0_2))], .frz 9 1 0 (eStrs [[98]]), .arr 37 4 0 (eBindings [(TBinding.mk [97] (TType.mk x11_0_0 x11_0_1 x11_0_2))]), .own 27 3 0 (eTypes x13_2), .frz 9 1 0 (eStrs [[100]]), .arr 37 4 0 (eBindings [(TBinding.mk [99] (TType.mk x14_0_0 x14_0_1 x14_0_2))]), .own 27 3 0 (eTypes x16_2)], Tryz.f18.ntmps⟩ (by kernel_rfl) ?_ ?_
      · refine VT_h (VY_dh VY_e) ?_ ?_
        · refine VT_h (VY_dh VY_e) ?_ ?_
          · refine goT ?_
            refine VT_nil ?_
            exact R_pk 0 [0, 1, 2, 3, 4, 5, 6, 7, 8, 9, 10, 11, 12]
          refine goT ?_
          refine VT_h1 (VY_dh VY_e) ?_
          refine goT ?_
          refine VT_nil ?_
          exact R_pk 0 [0, 1, 2, 3, 4, 5, 6, 7, 8, 9, 10, 11, 12]
        refine VT_h1 (VY_dh VY_e) ?_
        refine VT_h1 (VY_dh VY_e) ?_
        refine goT ?_
        refine VT_nil ?_
        exact R_pk 0 [0, 1, 2, 3, 4, 5, 6, 7, 8, 9, 10, 11, 12]
      refine goL ?_
      refine V_freezeO 9 rfl rfl ?_
      refine V_freezeO 12 rfl rfl ?_
      refine V_ret ?_
      replace h := Option.some.inj h
      subst h
      exact R_rP
    · replace h := cnd_f c9 h
      refine V_skip ?_
      show V _ _ _ _ _
      refine V_seq_drawTJ (P := Tryz.prog) Mix.h (.h 0 (.h 1 (.h 2 (.h 3 .nil .nil) .nil) (.h 2 (.h 1 (.h 3 .nil .nil) .nil) .nil)) (.h 1 (.h 0 (.h 2 (.h 3 .nil .nil) .nil) .nil) .nil)) ⟨[(2, .ptr 0 0), (3, .ptr 1 0)], [.box [.d (.i .i64 x2_0_0), .d (.s x2_0_1), .d (.sl 3 (eTypes x2_0_2))], .box [.d (.i .i64 x3_0_0), .d (.s x3_0_1), .d (.sl 3 (eTypes x3_0_2))], .box [.d (.sl 1 (eBytes x4_1_0)), .d (.i .i64 x4_1_1), .d (.i .i64 x4_1_2)], .box [.d (.i .i64 x2_0_0), .d (.s x2_0_1), .d (.sl 3 (eTypes x2_0_2))], .box [.d (.i .i64 x3_0_0), .d (.s x3_0_1), .d (.sl 3 (eTypes x3_0_2))]], Tryz.f18.ntmps⟩ (by kernel_rfl) ?_ ?_
      · refine VT_h (VY_dh VY_e) ?_ ?_
        · refine VT_h (VY_dh VY_e) ?_ ?_
          · refine goT ?_
            refine VT_nil ?_
            exact R_pk 0 [0, 1, 2, 3, 4]
          refine goT ?_
          refine VT_h1 (VY_dh VY_e) ?_
          refine goT ?_
          refine VT_nil ?_
          exact R_pk 0 [0, 1, 2, 3, 4]
        refine VT_h1 (VY_dh VY_e) ?_
        refine VT_h1 (VY_dh VY_e) ?_
        refine goT ?_
        refine VT_nil ?_
        exact R_pk 0 [0, 1, 2, 3, 4]
      refine goL ?_
      refine V_ret ?_
      replace h := Option.some.inj h
      subst h
      exact R_rP
def b_drawUnify (a0 : List UInt8) : Option (TType × TType) :=
bnd (b_l8Two a0) fun x1 =>
(some (x1.1, x1.2))
set_option maxHeartbeats 4000000 in
theorem w_drawUnify (a0 : List UInt8) {r : TType × TType} (h : b_drawUnify a0 = some r) : SpecP Tryz.prog 6 [.d (.sl 1 (eBytes a0))] [eType r.1, eType r.2] := by
  unfold b_drawUnify at h
  refine SpecP_intro Tryz.func6 rfl (by kernel_rfl) rfl fun A _ => ?_
  refine goL ?_
  obtain ⟨x1, hx1, h⟩ := bnd_s h
  obtain ⟨⟨x1_0_0, x1_0_1, x1_0_2⟩, ⟨x1_1_0, x1_1_1, x1_1_2⟩⟩ := x1
  refine VO_r (QR_call (w_l8Two a0 hx1)) ?_
  refine goL ?_
  refine V_ret ?_
  replace h := Option.some.inj h
  subst h
  exact R_rP
def b_FnPureTypes_l3 (y21 : Nat) (k3_0 : (List TBinding) → Option (Bool)) : Nat → (List TBinding) → Nat → Option (Bool)
  | 0, y24, y26 => none
  | n27 + 1, y24, y26 => bnd (at? y24 (y21 : Int)) fun x28 =>
(cnd (decide ((y26 : Int) < (x28.type_.args.length : Int))) (
bnd (at? y24 (y21 : Int)) fun x30 =>
bnd (at? x30.type_.args (y26 : Int)) fun x31 =>
gd (y26 < 4294967296) (
b_FnPureTypes_l3 y21 k3_0 n27 (y24.set y21 (TBinding.mk x30.var_ (TType.mk x30.type_.kind x30.type_.name (x30.type_.args.set y26 (TType.mk x31.kind [122, 122] x31.args))))) (y26 + 1))) (
(k3_0 y24)))
def b_FnPureTypes_l4 (x2 : List TBinding × TType) (x3 : TType × TType) (x4 : List UInt8) (x5 : List UInt8) (x6 : List UInt8) (x17 : List TBinding × Bool) (x18 : List TBinding × Bool) (x34 : TEvidence × List Int) (x35 : List UInt8) : Nat → (List TEvidence) → Nat → Option (Bool)
  | 0, y37, y39 => none
  | n40 + 1, y37, y39 => (cnd (decide ((y39 : Int) < (y37.length : Int))) (
bnd (at? y37 (y39 : Int)) fun x42 =>
gd (y39 < 4294967296) (
b_FnPureTypes_l4 x2 x3 x4 x5 x6 x17 x18 x34 x35 n40 (y37.set y39 (TEvidence.mk x42.kind 77 x42.at_ x42.args)) (y39 + 1))) (
bnd ((cnd (x17.2 == x18.2) (bnd (b_sFormatT x2.2) fun x46 =>
(cnd (x46 == x4) (bnd (b_sFormatT x3.1) fun x48 =>
bnd (b_sFormatT x3.2) fun x49 =>
gd (x48.length + x49.length ≤ 4294967296) (
(cnd ((x48 ++ x49) == (x5 ++ x6)) (bnd (b_sFormatEv x34.1) fun x52 =>
(some (x52 == x35))) ((some false))))) ((some false)))) ((some false)))) fun b44 =>
(some b44)))
def b_FnPureTypes_l2 (a0 : List UInt8) (x2 : List TBinding × TType) (x3 : TType × TType) (x4 : List UInt8) (x5 : List UInt8) (x6 : List UInt8) (x17 : List TBinding × Bool) (x18 : List TBinding × Bool) (n0 : Nat) : Nat → (List TBinding) → Nat → Option (Bool)
  | 0, y19, y21 => none
  | n22 + 1, y19, y21 => (cnd (decide ((y21 : Int) < (y19.length : Int))) (
b_FnPureTypes_l3 y21 (fun y24 => gd (y21 < 4294967296) (
b_FnPureTypes_l2 a0 x2 x3 x4 x5 x6 x17 x18 n0 n22 y24 (y21 + 1))) n0 y19 0) (
bnd (b_drawAS a0) fun x34 =>
bnd (b_sFormatEv x34.1) fun x35 =>
bnd (b_iApplySup x34.1 x34.2) fun x36 =>
b_FnPureTypes_l4 x2 x3 x4 x5 x6 x17 x18 x34 x35 n0 x36.args 0))
def b_FnPureTypes_l1 (a0 : List UInt8) (x2 : List TBinding × TType) (x3 : TType × TType) (x4 : List UInt8) (x5 : List UInt8) (x6 : List UInt8) (n0 : Nat) : Nat → (List TType) → Nat → Option (Bool)
  | 0, y10, y12 => none
  | n13 + 1, y10, y12 => (cnd (decide ((y12 : Int) < (y10.length : Int))) (
bnd (at? y10 (y12 : Int)) fun x15 =>
gd (y12 < 4294967296) (
b_FnPureTypes_l1 a0 x2 x3 x4 x5 x6 n0 n13 (y10.set y12 (TType.mk x15.kind [122, 122] x15.args)) (y12 + 1))) (
bnd (b_iUnifyF x3.1 x3.2) fun x17 =>
bnd (b_sUnifyF x3.1 x3.2) fun x18 =>
b_FnPureTypes_l2 a0 x2 x3 x4 x5 x6 x17 x18 n0 n0 x17.1 0))
def b_FnPureTypes (a0 : List UInt8) (n0 : Nat) : Option (Bool) :=
(cnd (b_big a0) (
(some true)) (
bnd (b_drawApply a0) fun x2 =>
bnd (b_drawUnify a0) fun x3 =>
bnd (b_iFormatT x2.2) fun x4 =>
bnd (b_iFormatT x3.1) fun x5 =>
bnd (b_iFormatT x3.2) fun x6 =>
gd (x5.length + x6.length ≤ 4294967296) (
gd (bok x2.1 ∧ tok x2.2) (lt_ (apT x2.1 x2.2) fun x9 =>
b_FnPureTypes_l1 a0 x2 x3 x4 x5 x6 n0 n0 x9.args 0))))
set_option maxHeartbeats 4000000 in
theorem w_FnPureTypes (a0 : List UInt8) {n0 : Nat} {r : Bool} (h : b_FnPureTypes a0 n0 = some r) : SpecP Tryz.prog 3 [.d (.sl 1 (eBytes a0))] [.b r] := by
  unfold b_FnPureTypes at h
  refine SpecP_intro Tryz.func3 rfl (by kernel_rfl) rfl fun A _ => ?_
  refine goL ?_
  refine VO_r (QR_call (w_big a0)) ?_
  refine goL ?_
  refine V_cb (fun c1 => ?_) (fun c1 => ?_)
  · replace h := cnd_t c1 h
    refine goL ?_
    refine V_ret ?_
    replace h := Option.some.inj h
    subst h
    exact R_rP
  · replace h := cnd_f c1 h
    refine V_skip ?_
    show V _ _ _ _ _
    refine goL ?_
    obtain ⟨x2, hx2, h⟩ := bnd_s h
    obtain ⟨x2_0, ⟨x2_1_0, x2_1_1, x2_1_2⟩⟩ := x2
    refine VO_r (QR_call (w_drawApply a0 hx2)) ?_
    refine goL ?_
    obtain ⟨x3, hx3, h⟩ := bnd_s h
    obtain ⟨⟨x3_0_0, x3_0_1, x3_0_2⟩, ⟨x3_1_0, x3_1_1, x3_1_2⟩⟩ := x3
    refine VO_r (QR_call (w_drawUnify a0 hx3)) ?_
    refine goL ?_
    obtain ⟨x4, hx4, h⟩ := bnd_s h
    refine VO_r (QR_call (w_iFormatT (TType.mk x2_1_0 x2_1_1 x2_1_2) hx4)) ?_
    refine goL ?_
    obtain ⟨x5, hx5, h⟩ := bnd_s h
    refine VQ_r (QR_call (w_iFormatT (TType.mk x3_0_0 x3_0_1 x3_0_2) hx5)) ?_
    refine goL ?_
    obtain ⟨x6, hx6, h⟩ := bnd_s h
    refine VQ_r (QR_call (w_iFormatT (TType.mk x3_1_0 x3_1_1 x3_1_2) hx6)) ?_
    obtain ⟨g7, h⟩ := gd_s h
    refine VQ_r (QR_cat g7) ?_
    refine goL ?_
    obtain ⟨g8, h⟩ := gd_s h
    obtain ⟨x9, hx9, h⟩ := lt_x h
    obtain ⟨x9_0, x9_1, x9_2⟩ := x9
    have sx9 := t_iApply x2_0 (TType.mk x2_1_0 x2_1_1 x2_1_2) g8
    rw [hx9] at sx9
    refine VO_co (sx9) ?_
    refine goL ?_
    refine V_block ?_
    show V _ _ _ _ _
    refine V_loop4 (fun (n13 : Nat) (y10 : List TType) (y12 : Nat) (v11 : Nat) => ⟨[(0, .d (.sl 1 (eBytes a0))), (4, .ptr 0 0), (5, .ptr 1 0), (6, .ptr 2 0), (7, .d (.s x4)), (8, .d (.s (x5 ++ x6))), (9, .ptr 4 0), (10, .d (.i .i64 (y12 : Int)))], [.box [.d (.i .i64 x2_1_0), .d (.s x2_1_1), .d (.sl 3 (eTypes x2_1_2))], .box [.d (.i .i64 x3_0_0), .d (.s x3_0_1), .d (.sl 3 (eTypes x3_0_2))], .box [.d (.i .i64 x3_1_0), .d (.s x3_1_1), .d (.sl 3 (eTypes x3_1_2))], .own 27 3 v11 (eTypes y10), .box [.d (.i .i64 x9_0), .d (.s x9_1), .sl 3 v11]], Tryz.f3.ntmps⟩) (fun n13 y10 y12 v11 => b_FnPureTypes_l1 a0 (x2_0, (TType.mk x2_1_0 x2_1_1 x2_1_2)) ((TType.mk x3_0_0 x3_0_1 x3_0_2), (TType.mk x3_1_0 x3_1_1 x3_1_2)) x4 x5 x6 n0 n13 y10 y12 = some r) (fun n13 y10 y12 v11 => n13) n0 x9_2 0 0 ⟨rfl, ⟨⟨rfl, rfl⟩, ⟨rfl, rfl⟩, ⟨rfl, rfl⟩, ⟨rfl, rfl⟩, ⟨rfl, rfl⟩, ⟨rfl, rfl⟩, ⟨rfl, rfl⟩, ⟨rfl, rfl⟩, trivial⟩, ⟨[], rfl⟩, rfl⟩ h ?_
    rintro n13 y10 y12 v11 h
    rcases n13 with _ | n13
    · cases h
    rw [b_FnPureTypes_l1.eq_2] at h
    refine goL ?_
    refine V_cb (fun c14 => ?_) (fun c14 => ?_)
    · replace h := cnd_t c14 h
      refine V_skip ?_
      show V _ _ _ _ _
      refine V_seq (V_block ?_)
      refine goL ?_
      obtain ⟨x15, hx15, h⟩ := bnd_s h
      rw [at_nat] at hx15
      obtain ⟨x15_0, x15_1, x15_2⟩ := x15
      refine VO_k (Q_ixo y12 (List.getElem?_eq_some_iff.1 hx15).1) ?_
      refine VO_k (Q_field_epo rfl rfl .own TF.h) ?_
      refine VO_stfo (TType.mk x15_0 x15_1 x15_2) (TType.mk x15_0 [122, 122] x15_2) hx15 ?_
      refine goL ?_
      obtain ⟨g16, h⟩ := gd_s h
      refine VO_r (QR_inc y12 (by omega)) ?_
      refine goL ?_
      exact ⟨n13, (y10.set y12 (TType.mk x15_0 [122, 122] x15_2)), (y12 + 1), v11, h, Nat.lt_succ_self _, ⟨rfl, ⟨⟨rfl, rfl⟩, ⟨rfl, rfl⟩, ⟨rfl, rfl⟩, ⟨rfl, rfl⟩, ⟨rfl, rfl⟩, ⟨rfl, rfl⟩, ⟨rfl, rfl⟩, ⟨rfl, rfl⟩, trivial⟩, ⟨_, rfl⟩, rfl⟩⟩
    · replace h := cnd_f c14 h
      refine V_exit ?_
      show V _ _ _ _ _
      refine goL ?_
      obtain ⟨x17, hx17, h⟩ := bnd_s h
      obtain ⟨x17_0, x17_1⟩ := x17
      refine VO_cG [] (w_iUnifyF (TType.mk x3_0_0 x3_0_1 x3_0_2) (TType.mk x3_1_0 x3_1_1 x3_1_2) hx17) ?_
      rintro _ _ ⟨rfl, rfl⟩
      show VO _ _ _ _ ⟨(_, .tup [.sl 5 0, .d (.b x17_1)]) :: _, [.box [.d (.i .i64 x2_1_0), .d (.s x2_1_1), .d (.sl 3 (eTypes x2_1_2))], .box [.d (.i .i64 x3_0_0), .d (.s x3_0_1), .d (.sl 3 (eTypes x3_0_2))], .box [.d (.i .i64 x3_1_0), .d (.s x3_1_1), .d (.sl 3 (eTypes x3_1_2))], .own 27 3 v11 (eTypes y10), .box [.d (.i .i64 x9_0), .d (.s x9_1), .sl 3 v11], .own 37 4 0 (eBindings x17_0)], _⟩ _
      refine goL ?_
      obtain ⟨x18, hx18, h⟩ := bnd_s h
      obtain ⟨x18_0, x18_1⟩ := x18
      refine VO_r (QR_call (w_sUnifyF (TType.mk x3_0_0 x3_0_1 x3_0_2) (TType.mk x3_1_0 x3_1_1 x3_1_2) hx18)) ?_
      refine goL ?_
      refine V_block ?_
      show V _ _ _ _ _
      refine V_loop4 (fun (n22 : Nat) (y19 : List TBinding) (y21 : Nat) (v20 : Nat) => ⟨[(0, .d (.sl 1 (eBytes a0))), (4, .ptr 0 0), (5, .ptr 1 0), (6, .ptr 2 0), (7, .d (.s x4)), (8, .d (.s (x5 ++ x6))), (11, .sl 5 v20), (12, .d (.b x17_1)), (14, .d (.b x18_1)), (15, .d (.i .i64 (y21 : Int)))], [.box [.d (.i .i64 x2_1_0), .d (.s x2_1_1), .d (.sl 3 (eTypes x2_1_2))], .box [.d (.i .i64 x3_0_0), .d (.s x3_0_1), .d (.sl 3 (eTypes x3_0_2))], .box [.d (.i .i64 x3_1_0), .d (.s x3_1_1), .d (.sl 3 (eTypes x3_1_2))], .own 27 3 v11 (eTypes y10), .box [.d (.i .i64 x9_0), .d (.s x9_1), .sl 3 v11], .own 37 4 v20 (eBindings y19)], Tryz.f3.ntmps⟩) (fun n22 y19 y21 v20 => b_FnPureTypes_l2 a0 (x2_0, (TType.mk x2_1_0 x2_1_1 x2_1_2)) ((TType.mk x3_0_0 x3_0_1 x3_0_2), (TType.mk x3_1_0 x3_1_1 x3_1_2)) x4 x5 x6 (x17_0, x17_1) (x18_0, x18_1) n0 n22 y19 y21 = some r) (fun n22 y19 y21 v20 => n22) n0 x17_0 0 0 ⟨rfl, ⟨⟨rfl, rfl⟩, ⟨rfl, rfl⟩, ⟨rfl, rfl⟩, ⟨rfl, rfl⟩, ⟨rfl, rfl⟩, ⟨rfl, rfl⟩, ⟨rfl, rfl⟩, ⟨rfl, rfl⟩, ⟨rfl, rfl⟩, ⟨rfl, rfl⟩, trivial⟩, ⟨[], rfl⟩, rfl⟩ h ?_
      rintro n22 y19 y21 v20 h
      rcases n22 with _ | n22
      · cases h
      rw [b_FnPureTypes_l2.eq_2] at h
      refine goL ?_
      refine V_cb (fun c23 => ?_) (fun c23 => ?_)
      · replace h := cnd_t c23 h
        refine V_skip ?_
        show V _ _ _ _ _
        refine V_seq (V_block ?_)
        refine goL ?_
        refine V_block ?_
        show V _ _ _ _ _
        refine V_loop4 (fun (n27 : Nat) (y24 : List TBinding) (y26 : Nat) (v25 : Nat) => ⟨[(0, .d (.sl 1 (eBytes a0))), (4, .ptr 0 0), (5, .ptr 1 0), (6, .ptr 2 0), (7, .d (.s x4)), (8, .d (.s (x5 ++ x6))), (11, .sl 5 v25), (12, .d (.b x17_1)), (14, .d (.b x18_1)), (15, .d (.i .i64 (y21 : Int))), (16, .d (.i .i64 (y26 : Int)))], [.box [.d (.i .i64 x2_1_0), .d (.s x2_1_1), .d (.sl 3 (eTypes x2_1_2))], .box [.d (.i .i64 x3_0_0), .d (.s x3_0_1), .d (.sl 3 (eTypes x3_0_2))], .box [.d (.i .i64 x3_1_0), .d (.s x3_1_1), .d (.sl 3 (eTypes x3_1_2))], .own 27 3 v11 (eTypes y10), .box [.d (.i .i64 x9_0), .d (.s x9_1), .sl 3 v11], .own 37 4 v25 (eBindings y24)], Tryz.f3.ntmps⟩) (fun n27 y24 y26 v25 => b_FnPureTypes_l3 y21 (fun y24 => gd (y21 < 4294967296) (
b_FnPureTypes_l2 a0 (x2_0, (TType.mk x2_1_0 x2_1_1 x2_1_2)) ((TType.mk x3_0_0 x3_0_1 x3_0_2), (TType.mk x3_1_0 x3_1_1 x3_1_2)) x4 x5 x6 (x17_0, x17_1) (x18_0, x18_1) n0 n22 y24 (y21 + 1))) n27 y24 y26 = some r) (fun n27 y24 y26 v25 => n27) n0 y19 0 v20 ⟨rfl, ⟨⟨rfl, rfl⟩, ⟨rfl, rfl⟩, ⟨rfl, rfl⟩, ⟨rfl, rfl⟩, ⟨rfl, rfl⟩, ⟨rfl, rfl⟩, ⟨rfl, rfl⟩, ⟨rfl, rfl⟩, ⟨rfl, rfl⟩, ⟨rfl, rfl⟩, ⟨rfl, rfl⟩, trivial⟩, ⟨[], rfl⟩, rfl⟩ h ?_
        rintro n27 y24 y26 v25 h
        rcases n27 with _ | n27
        · cases h
        rw [b_FnPureTypes_l3.eq_2] at h
        refine goL ?_
        obtain ⟨x28, hx28, h⟩ := bnd_s h
        rw [at_nat] at hx28
        obtain ⟨x28_0, ⟨x28_1_0, x28_1_1, x28_1_2⟩⟩ := x28
        refine VO_k (Q_ixo y21 (List.getElem?_eq_some_iff.1 hx28).1) ?_
        refine VO_k (Q_field_epo rfl rfl .own TF.h) ?_
        refine VO_k (Q_field_epo rfl rfl .own TF.h) ?_
        refine VO_dlen (TBinding.mk x28_0 (TType.mk x28_1_0 x28_1_1 x28_1_2)) [.s x28_0, .st [.i .i64 x28_1_0, .s x28_1_1, .sl 3 (eTypes x28_1_2)]] hx28 ?_
        refine goL ?_
        refine V_cb (fun c29 => ?_) (fun c29 => ?_)
        · replace h := cnd_t c29 h
          refine V_skip ?_
          show V _ _ _ _ _
          refine V_seq (V_block ?_)
          refine goL ?_
          obtain ⟨x30, hx30, h⟩ := bnd_s h
          rw [at_nat] at hx30
          obtain ⟨x30_0, ⟨x30_1_0, x30_1_1, x30_1_2⟩⟩ := x30
          refine VO_k (Q_ixo y21 (List.getElem?_eq_some_iff.1 hx30).1) ?_
          refine VO_k (Q_field_epo rfl rfl .own TF.h) ?_
          refine VO_k (Q_field_epo rfl rfl .own TF.h) ?_
          obtain ⟨x31, hx31, h⟩ := bnd_s h
          rw [at_nat] at hx31
          obtain ⟨x31_0, x31_1, x31_2⟩ := x31
          refine VO_dst (TBinding.mk x30_0 (TType.mk x30_1_0 x30_1_1 x30_1_2)) (TBinding.mk x30_0 (TType.mk x30_1_0 x30_1_1 (x30_1_2.set y26 (TType.mk x31_0 [122, 122] x31_2)))) [.s x30_0, .st [.i .i64 x30_1_0, .s x30_1_1, .sl 3 (eTypes x30_1_2)]] [.s x30_0, .st [.i .i64 x30_1_0, .s x30_1_1, .sl 3 (eTypes (x30_1_2.set y26 (TType.mk x31_0 [122, 122] x31_2)))]] (TType.mk x31_0 x31_1 x31_2) (TType.mk x31_0 [122, 122] x31_2) hx30 hx31 ?_
          refine goL ?_
          obtain ⟨g32, h⟩ := gd_s h
          refine VO_r (QR_inc y26 (by omega)) ?_
          refine goL ?_
          exact ⟨n27, (y24.set y21 (TBinding.mk x30_0 (TType.mk x30_1_0 x30_1_1 (x30_1_2.set y26 (TType.mk x31_0 [122, 122] x31_2))))), (y26 + 1), v25, h, Nat.lt_succ_self _, ⟨rfl, ⟨⟨rfl, rfl⟩, ⟨rfl, rfl⟩, ⟨rfl, rfl⟩, ⟨rfl, rfl⟩, ⟨rfl, rfl⟩, ⟨rfl, rfl⟩, ⟨rfl, rfl⟩, ⟨rfl, rfl⟩, ⟨rfl, rfl⟩, ⟨rfl, rfl⟩, ⟨rfl, rfl⟩, trivial⟩, ⟨_, rfl⟩, rfl⟩⟩
        · replace h := cnd_f c29 h
          refine V_exit ?_
          show V _ _ _ _ _
          refine goL ?_
          obtain ⟨g33, h⟩ := gd_s h
          refine VO_r (QR_inc y21 (by omega)) ?_
          refine goL ?_
          exact ⟨n22, y24, (y21 + 1), v25, h, Nat.lt_succ_self _, ⟨rfl, ⟨⟨rfl, rfl⟩, ⟨rfl, rfl⟩, ⟨rfl, rfl⟩, ⟨rfl, rfl⟩, ⟨rfl, rfl⟩, ⟨rfl, rfl⟩, ⟨rfl, rfl⟩, ⟨rfl, rfl⟩, ⟨rfl, rfl⟩, ⟨rfl, rfl⟩, trivial⟩, ⟨_, rfl⟩, rfl⟩⟩
      · replace h := cnd_f c23 h
        refine V_exit ?_
        show V _ _ _ _ _
        refine goL ?_
        obtain ⟨x34, hx34, h⟩ := bnd_s h
        obtain ⟨⟨x34_0_0, x34_0_1, ⟨x34_0_2_0, x34_0_2_1⟩, x34_0_3⟩, x34_1⟩ := x34
        refine VO_r (QR_call (w_drawAS a0 hx34)) ?_
        refine goL ?_
        obtain ⟨x35, hx35, h⟩ := bnd_s h
        refine VO_r (QR_call (w_sFormatEv (TEvidence.mk x34_0_0 x34_0_1 (TInstanceRef.mk x34_0_2_0 x34_0_2_1) x34_0_3) hx35)) ?_
        refine goL ?_
        obtain ⟨x36, hx36, h⟩ := bnd_s h
        obtain ⟨x36_0, x36_1, ⟨x36_2_0, x36_2_1⟩, x36_3⟩ := x36
        refine VO_co (w_iApplySup (TEvidence.mk x34_0_0 x34_0_1 (TInstanceRef.mk x34_0_2_0 x34_0_2_1) x34_0_3) x34_1 hx36) ?_
        refine goL ?_
        refine V_block ?_
        show V _ _ _ _ _
        refine V_loop4 (fun (n40 : Nat) (y37 : List TEvidence) (y39 : Nat) (v38 : Nat) => ⟨[(4, .ptr 0 0), (5, .ptr 1 0), (6, .ptr 2 0), (7, .d (.s x4)), (8, .d (.s (x5 ++ x6))), (12, .d (.b x17_1)), (14, .d (.b x18_1)), (17, .ptr 6 0), (19, .d (.s x35)), (20, .ptr 8 0), (21, .d (.i .i64 (y39 : Int)))], [.box [.d (.i .i64 x2_1_0), .d (.s x2_1_1), .d (.sl 3 (eTypes x2_1_2))], .box [.d (.i .i64 x3_0_0), .d (.s x3_0_1), .d (.sl 3 (eTypes x3_0_2))], .box [.d (.i .i64 x3_1_0), .d (.s x3_1_1), .d (.sl 3 (eTypes x3_1_2))], .own 27 3 v11 (eTypes y10), .box [.d (.i .i64 x9_0), .d (.s x9_1), .sl 3 v11], .own 37 4 v20 (eBindings y19), .box [.d (.i .i64 x34_0_0), .d (.i .i64 x34_0_1), .d (.i .i64 x34_0_2_0), .d (.i .i64 x34_0_2_1), .d (.sl 5 (eEvidences x34_0_3))], .own 42 5 v38 (eEvidences y37), .box [.d (.i .i64 x36_0), .d (.i .i64 77), .d (.i .i64 x36_2_0), .d (.i .i64 x36_2_1), .sl 7 v38]], Tryz.f3.ntmps⟩) (fun n40 y37 y39 v38 => b_FnPureTypes_l4 (x2_0, (TType.mk x2_1_0 x2_1_1 x2_1_2)) ((TType.mk x3_0_0 x3_0_1 x3_0_2), (TType.mk x3_1_0 x3_1_1 x3_1_2)) x4 x5 x6 (x17_0, x17_1) (x18_0, x18_1) ((TEvidence.mk x34_0_0 x34_0_1 (TInstanceRef.mk x34_0_2_0 x34_0_2_1) x34_0_3), x34_1) x35 n40 y37 y39 = some r) (fun n40 y37 y39 v38 => n40) n0 x36_3 0 0 ⟨rfl, ⟨⟨rfl, rfl⟩, ⟨rfl, rfl⟩, ⟨rfl, rfl⟩, ⟨rfl, rfl⟩, ⟨rfl, rfl⟩, ⟨rfl, rfl⟩, ⟨rfl, rfl⟩, ⟨rfl, rfl⟩, ⟨rfl, rfl⟩, ⟨rfl, rfl⟩, ⟨rfl, rfl⟩, trivial⟩, ⟨[], rfl⟩, rfl⟩ h ?_
        rintro n40 y37 y39 v38 h
        rcases n40 with _ | n40
        · cases h
        rw [b_FnPureTypes_l4.eq_2] at h
        refine goL ?_
        refine V_cb (fun c41 => ?_) (fun c41 => ?_)
        · replace h := cnd_t c41 h
          refine V_skip ?_
          show V _ _ _ _ _
          refine V_seq (V_block ?_)
          refine goL ?_
          obtain ⟨x42, hx42, h⟩ := bnd_s h
          rw [at_nat] at hx42
          obtain ⟨x42_0, x42_1, ⟨x42_2_0, x42_2_1⟩, x42_3⟩ := x42
          refine VO_k (Q_ixo y39 (List.getElem?_eq_some_iff.1 hx42).1) ?_
          refine VO_k (Q_field_epo rfl rfl .own TF.h) ?_
          refine VO_stfo (TEvidence.mk x42_0 x42_1 (TInstanceRef.mk x42_2_0 x42_2_1) x42_3) (TEvidence.mk x42_0 77 (TInstanceRef.mk x42_2_0 x42_2_1) x42_3) hx42 ?_
          refine goL ?_
          obtain ⟨g43, h⟩ := gd_s h
          refine VO_r (QR_inc y39 (by omega)) ?_
          refine goL ?_
          exact ⟨n40, (y37.set y39 (TEvidence.mk x42_0 77 (TInstanceRef.mk x42_2_0 x42_2_1) x42_3)), (y39 + 1), v38, h, Nat.lt_succ_self _, ⟨rfl, ⟨⟨rfl, rfl⟩, ⟨rfl, rfl⟩, ⟨rfl, rfl⟩, ⟨rfl, rfl⟩, ⟨rfl, rfl⟩, ⟨rfl, rfl⟩, ⟨rfl, rfl⟩, ⟨rfl, rfl⟩, ⟨rfl, rfl⟩, ⟨rfl, rfl⟩, ⟨rfl, rfl⟩, trivial⟩, ⟨_, rfl⟩, rfl⟩⟩
        · replace h := cnd_f c41 h
          refine V_exit ?_
          show V _ _ _ _ _
          obtain ⟨b44, hb44, h⟩ := bnd_s h
          refine V_seqJ_draw (P := Tryz.prog) Mix.h ⟨[(2, .d (.b b44))], [.box [.d (.i .i64 x2_1_0), .d (.s x2_1_1), .d (.sl 3 (eTypes x2_1_2))], .box [.d (.i .i64 x3_0_0), .d (.s x3_0_1), .d (.sl 3 (eTypes x3_0_2))], .box [.d (.i .i64 x3_1_0), .d (.s x3_1_1), .d (.sl 3 (eTypes x3_1_2))], .own 27 3 v11 (eTypes y10), .box [.d (.i .i64 x9_0), .d (.s x9_1), .sl 3 v11], .own 37 4 v20 (eBindings y19), .box [.d (.i .i64 x34_0_0), .d (.i .i64 x34_0_1), .d (.i .i64 x34_0_2_0), .d (.i .i64 x34_0_2_1), .d (.sl 5 (eEvidences x34_0_3))], .own 42 5 v38 (eEvidences y37), .box [.d (.i .i64 x36_0), .d (.i .i64 77), .d (.i .i64 x36_2_0), .d (.i .i64 x36_2_1), .sl 7 v38]], Tryz.f3.ntmps⟩ (by kernel_rfl) ?_ ?_
          · refine goL ?_
            refine VQ_case 120 (fun c45 => ?_) (fun c45 => ?_)
            · replace hb44 := cnd_t c45 hb44
              refine goL ?_
              obtain ⟨x46, hx46, hb44⟩ := bnd_s hb44
              refine VQ_rg (QR_call (w_sFormatT (TType.mk x2_1_0 x2_1_1 x2_1_2) hx46)) ?_
              refine goL ?_
              refine VQ_case 126 (fun c47 => ?_) (fun c47 => ?_)
              · replace hb44 := cnd_t c47 hb44
                refine goL ?_
                obtain ⟨x48, hx48, hb44⟩ := bnd_s hb44
                refine VQ_rg (QR_call (w_sFormatT (TType.mk x3_0_0 x3_0_1 x3_0_2) hx48)) ?_
                refine goL ?_
                obtain ⟨x49, hx49, hb44⟩ := bnd_s hb44
                refine VQ_rg (QR_call (w_sFormatT (TType.mk x3_1_0 x3_1_1 x3_1_2) hx49)) ?_
                obtain ⟨g50, hb44⟩ := gd_s hb44
                refine VQ_rg (QR_cat g50) ?_
                refine goL ?_
                refine VQ_case 135 (fun c51 => ?_) (fun c51 => ?_)
                · replace hb44 := cnd_t c51 hb44
                  refine goL ?_
                  obtain ⟨x52, hx52, hb44⟩ := bnd_s hb44
                  refine VQ_rg (QR_call (w_sFormatEv (TEvidence.mk x34_0_0 x34_0_1 (TInstanceRef.mk x34_0_2_0 x34_0_2_1) x34_0_3) hx52)) ?_
                  refine goL ?_
                  cases hb44
                  exact ⟨rfl, ⟨⟨rfl, rfl⟩, trivial⟩, ⟨[], rfl⟩, rfl⟩
                · replace hb44 := cnd_f c51 hb44
                  refine goL ?_
                  cases hb44
                  exact ⟨rfl, ⟨⟨rfl, rfl⟩, trivial⟩, ⟨[], rfl⟩, rfl⟩
              · replace hb44 := cnd_f c47 hb44
                refine goL ?_
                cases hb44
                exact ⟨rfl, ⟨⟨rfl, rfl⟩, trivial⟩, ⟨[], rfl⟩, rfl⟩
            · replace hb44 := cnd_f c45 hb44
              refine goL ?_
              cases hb44
              exact ⟨rfl, ⟨⟨rfl, rfl⟩, trivial⟩, ⟨[], rfl⟩, rfl⟩
          refine goL ?_
          refine V_ret ?_
          replace h := Option.some.inj h
          subst h
          exact R_rP
end Go.Proofs.YtgmlpaaklnkghaaGreat
