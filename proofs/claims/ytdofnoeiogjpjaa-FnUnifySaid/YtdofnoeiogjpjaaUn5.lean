/- Un5. Written by a program of mine (aw.py). -/
import Derived.Test.YtdofnoeiogjpjaaFacts
import Derived.Test.YtdofnoeiogjpjaaUn2
import Derived.Test.YtdofnoeiogjpjaaUn3
import Derived.Test.YtdofnoeiogjpjaaEng50
set_option linter.unusedVariables false
set_option linter.unusedSimpArgs false
set_option linter.unusedSectionVars false
namespace Go.Proofs.Ytdofnoeiogjpjaa
open Go Go.Eng
attribute [local irreducible] V VO VQ VY Quiet QR SpecP SpecO MSpec Rng PostP PostO PostG
def unifyNil (a b : List TType) : Option (List TBinding × Bool) := (m_iUnify 50000 [] a b).map fun r => (r.2, r.1)
theorem t_unifyNil (a b : List TType) {r : List TBinding × Bool} (h : unifyNil a b = some r) : Go.Eng.Spec Try.prog 47 [.nilsl, .d (.sl 3 (eTypes a)), .d (.sl 3 (eTypes b))] [] (fun sv Lo => sv = .tup [.d (.sl 4 (eBindings r.1)), .d (.b r.2)] ∧ Lo = []) := by
  unfold unifyNil at h
  cases hm : m_iUnify 50000 [] a b with
  | none => rw [hm] at h; cases h
  | some p =>
    rw [hm] at h
    simp only [Option.map_some, Option.some.injEq] at h
    subst h
    exact Spec.nilF (s_iUnify 50000 [] a b 0 hm)
def b_iUnifyAll (a0 : List TType) (a1 : List TType) : Option (List TBinding × Bool) :=
(cnd ((a0.length : Int) != (a1.length : Int)) (
(some ([], false))) (
bnd (unifyNil a0 a1) fun x2 =>
(some (x2.1, x2.2))))
set_option maxHeartbeats 4000000 in
theorem w_iUnifyAll (a0 : List TType) (a1 : List TType) {r : List TBinding × Bool} (h : b_iUnifyAll a0 a1 = some r) : SpecP Try.prog 29 [.d (.sl 3 (eTypes a0)), .d (.sl 3 (eTypes a1))] [.sl 4 (eBindings r.1), .b r.2] := by
  unfold b_iUnifyAll at h
  refine SpecP_intro Try.func29 rfl (by kernel_rfl) rfl fun A _ => ?_
  refine goL ?_
  refine V_cb (fun c1 => ?_) (fun c1 => ?_)
  · replace h := cnd_t c1 h
    refine goL ?_
    refine V_ret ?_
    replace h := Option.some.inj h
    subst h
    exact R_rP
  · replace h := cnd_f c1 h
    refine V_skip ?_
    show V _ _ _ _ _
    refine goL ?_
    obtain ⟨x2, hx2, h⟩ := bnd_s h
    obtain ⟨x2_0, x2_1⟩ := x2
    refine VO_cG [] (t_unifyNil a0 a1 hx2) ?_
    rintro _ _ ⟨rfl, rfl⟩
    show VO _ _ _ _ ⟨(_, .tup [.d (.sl 4 (eBindings x2_0)), .d (.b x2_1)]) :: _, [], _⟩ _
    refine goL ?_
    refine V_ret ?_
    replace h := Option.some.inj h
    subst h
    exact R_rP
def b_iUnifyF (a0 : TType) (a1 : TType) : Option (List TBinding × Bool) :=
bnd (b_iUnifyAll [a0] [a1]) fun x1 =>
(some (x1.1, x1.2))
set_option maxHeartbeats 4000000 in
theorem w_iUnifyF (a0 : TType) (a1 : TType) {r : List TBinding × Bool} (h : b_iUnifyF a0 a1 = some r) : SpecP Try.prog 15 [.d (eType a0), .d (eType a1)] [.sl 4 (eBindings r.1), .b r.2] := by
  obtain ⟨a0_0, a0_1, a0_2⟩ := a0
  obtain ⟨a1_0, a1_1, a1_2⟩ := a1
  unfold b_iUnifyF at h
  refine SpecP_intro Try.func15 rfl (by kernel_rfl) rfl fun A _ => ?_
  refine goL ?_
  refine VO_la1 (u := (.st [.i .i64 a0_0, .s a0_1, .sl 3 (eTypes a0_2)])) ?_
  refine goL ?_
  refine VO_la1 (u := (.st [.i .i64 a1_0, .s a1_1, .sl 3 (eTypes a1_2)])) ?_
  refine VO_freeze 2 rfl rfl ?_
  refine VO_freeze 3 rfl rfl ?_
  obtain ⟨x1, hx1, h⟩ := bnd_s h
  obtain ⟨x1_0, x1_1⟩ := x1
  refine VO_k (Q_cl (w_iUnifyAll [(TType.mk a0_0 a0_1 a0_2)] [(TType.mk a1_0 a1_1 a1_2)] hx1)) ?_
  refine goL ?_
  refine V_ret ?_
  replace h := Option.some.inj h
  subst h
  exact R_rP
def b_big (a0 : List UInt8) : Bool :=
(decide ((a0.length : Int) > 1048576))
set_option maxHeartbeats 4000000 in
theorem w_big (a0 : List UInt8) : SpecP Try.prog 5 [.d (.sl 1 (eBytes a0))] [.b (b_big a0)] := by
  obtain ⟨r, h⟩ : ∃ r, b_big a0 = r := ⟨_, rfl⟩
  rw [h]
  unfold b_big at h
  refine SpecP_intro Try.func5 rfl (by kernel_rfl) rfl fun A _ => ?_
  refine goL ?_
  refine V_ret ?_
  subst h
  exact R_rP
def b_sEqB_l1 (a1 : List TBinding) : List TBinding → Nat → Option (Bool)
  | [], y2 => (some true)
  | x5 :: xs, y2 => bnd (bnd (at? a1 (y2 : Int)) fun x7 =>
(cnd (!(x5.var_ == x7.var_)) ((some true)) ((some (!(teq x5.type_ x7.type_)))))) fun b6 =>
(cnd b6 (
(some false)) (
b_sEqB_l1 a1 xs (y2 + 1)))
def b_sEqB (a0 : List TBinding) (a1 : List TBinding) : Option (Bool) :=
(cnd ((a0.length : Int) != (a1.length : Int)) (
(some false)) (
b_sEqB_l1 a1 a0 0))
set_option maxHeartbeats 4000000 in
theorem w_sEqB (a0 : List TBinding) (a1 : List TBinding) {r : Bool} (h : b_sEqB a0 a1 = some r) : SpecP Try.prog 19 [.d (.sl 4 (eBindings a0)), .d (.sl 4 (eBindings a1))] [.b r] := by
  unfold b_sEqB at h
  refine SpecP_intro Try.func19 rfl (by kernel_rfl) rfl fun A _ => ?_
  refine goL ?_
  refine V_cb (fun c1 => ?_) (fun c1 => ?_)
  · replace h := cnd_t c1 h
    refine goL ?_
    refine V_ret ?_
    replace h := Option.some.inj h
    subst h
    exact R_rP
  · replace h := cnd_f c1 h
    refine V_skip ?_
    show V _ _ _ _ _
    refine goL ?_
    refine V_block ?_
    show V _ _ _ _ _
    refine V_bd 0 (fun z3 => ?_)
    refine V_loop1 (fun (y2 : Nat) => ⟨[(0, .d (.sl 4 (eBindings a0))), (1, .d (.sl 4 (eBindings a1))), (5, .d (.i .i64 (y2 : Int)))], [], Try.f19.ntmps⟩) (fun y2 => b_sEqB_l1 a1 (a0.drop y2) y2 = some r) (fun y2 => a0.length - y2) 0 ⟨rfl, ⟨⟨rfl, rfl⟩, ⟨rfl, rfl⟩, ⟨rfl, rfl⟩, trivial⟩, ⟨[], rfl⟩, rfl⟩ h ?_
    rintro y2 h
    refine goL ?_
    refine V_cb (fun c4 => ?_) (fun c4 => ?_)
    · have hky22 := kltN c4
      obtain ⟨x5, hx5, hdx5⟩ := drop_at hky22
      rw [hdx5, b_sEqB_l1.eq_2] at h
      obtain ⟨x5_0, ⟨x5_1_0, x5_1_1, x5_1_2⟩⟩ := x5
      refine V_skip ?_
      show V _ _ _ _ _
      refine V_seq (V_block ?_)
      obtain ⟨b6, hb6, h⟩ := bnd_s h
      refine V_seqJ_draw (P := Try.prog) Mix.h ⟨[(0, .d (.sl 4 (eBindings a0))), (1, .d (.sl 4 (eBindings a1))), (5, .d (.i .i64 (y2 : Int))), (41, .d (.b b6))], [], Try.f19.ntmps⟩ (by kernel_rfl) ?_ ?_
      · refine goL ?_
        refine VQ_r (QR_ixn y2 (gBinding hx5)) ?_
        refine goL ?_
        obtain ⟨x7, hx7, hb6⟩ := bnd_s hb6
        rw [at_nat] at hx7
        obtain ⟨x7_0, ⟨x7_1_0, x7_1_1, x7_1_2⟩⟩ := x7
        refine VQ_r (QR_ixn y2 (gBinding hx7)) ?_
        refine goL ?_
        refine VQ_case 28 (fun c8 => ?_) (fun c8 => ?_)
        · replace hb6 := cnd_t c8 hb6
          refine goL ?_
          cases hb6
          exact ⟨rfl, ⟨⟨rfl, rfl⟩, ⟨rfl, rfl⟩, ⟨rfl, rfl⟩, ⟨rfl, rfl⟩, trivial⟩, ⟨[], rfl⟩, rfl⟩
        · replace hb6 := cnd_f c8 hb6
          refine goL ?_
          refine VQ_rg (QR_ixn y2 (gBinding hx5)) ?_
          refine goL ?_
          refine VQ_rg (QR_ixn y2 (gBinding hx7)) ?_
          refine goL ?_
          refine VQ_rg (QR_call (t_sEqualType (TType.mk x5_1_0 x5_1_1 x5_1_2) (TType.mk x7_1_0 x7_1_1 x7_1_2))) ?_
          refine goL ?_
          cases hb6
          exact ⟨rfl, ⟨⟨rfl, rfl⟩, ⟨rfl, rfl⟩, ⟨rfl, rfl⟩, ⟨rfl, rfl⟩, trivial⟩, ⟨[], rfl⟩, rfl⟩
      refine goL ?_
      refine V_cb (fun c9 => ?_) (fun c9 => ?_)
      · replace h := cnd_t c9 h
        refine goL ?_
        refine V_ret ?_
        replace h := Option.some.inj h
        subst h
        exact R_rP
      · replace h := cnd_f c9 h
        refine V_skip ?_
        show V _ _ _ _ _
        refine goL ?_
        refine VO_r (QR_inc y2 (by omega)) ?_
        refine goL ?_
        exact ⟨(y2 + 1), h, by omega, ⟨rfl, ⟨⟨rfl, rfl⟩, ⟨rfl, rfl⟩, ⟨rfl, rfl⟩, trivial⟩, ⟨_, rfl⟩, rfl⟩⟩
    · have hky22 := kgeN c4
      rw [drop_end hky22, b_sEqB_l1.eq_1] at h
      refine V_exit ?_
      show V _ _ _ _ _
      refine goL ?_
      refine V_ret ?_
      replace h := Option.some.inj h
      subst h
      exact R_rP
def b_l8Two (a0 : List UInt8) : Option (TType × TType) :=
lt_ (l1NewT a0) fun x1 =>
bnd (b_l4Free x1 3) fun x2 =>
bnd (b_l4Free x2.2 3) fun x3 =>
bnd (b_l1Below x3.2 4) fun x4 =>
(cnd (x4.1 == 0) (
bnd (l6BindsT x4.2) fun x6 =>
gd (bok x6.1 ∧ tok x2.1) (lt_ (apT x6.1 x2.1) fun x8 =>
(some (x2.1, x8)))) (
(cnd (x4.1 == 1) (
bnd (m_l4Ty 8 x4.2 [[97], [98], [99], [100]] 3) fun x10 =>
bnd (m_l4Ty 8 x10.2 [[98]] 1) fun x11 =>
gd (bok [(TBinding.mk [97] x11.1)] ∧ tok x10.1) (lt_ (apT [(TBinding.mk [97] x11.1)] x10.1) fun x13 =>
bnd (m_l4Ty 8 x11.2 [[100]] 1) fun x14 =>
gd (bok [(TBinding.mk [99] x14.1)] ∧ tok x10.1) (lt_ (apT [(TBinding.mk [99] x14.1)] x10.1) fun x16 =>
(some (x13, x16))))) (
(some (x2.1, x3.1))))))
set_option maxHeartbeats 4000000 in
theorem w_l8Two (a0 : List UInt8) {r : TType × TType} (h : b_l8Two a0 = some r) : SpecP Try.prog 30 [.d (.sl 1 (eBytes a0))] [eType r.1, eType r.2] := by
  unfold b_l8Two at h
  refine SpecP_intro Try.func30 rfl (by kernel_rfl) rfl fun A _ => ?_
  refine goL ?_
  obtain ⟨x1, hx1, h⟩ := lt_x h
  obtain ⟨x1_0, x1_1, x1_2⟩ := x1
  have sx1 := t_l1New a0
  rw [hx1] at sx1
  refine VO_cG [] (sx1) ?_
  rintro _ _ ⟨rfl, rfl⟩
  show VO _ _ _ _ ⟨(_, .ptr 2 0) :: _, [.box [.d (.i .i64 0), .d (.s []), .nilsl], .box [.d (.i .i64 0), .d (.s []), .nilsl], .box [.d (.sl 1 (eBytes x1_0)), .d (.i .i64 x1_1), .d (.i .i64 x1_2)]], _⟩ _
  refine goL ?_
  obtain ⟨x2, hx2, h⟩ := bnd_s h
  obtain ⟨⟨x2_0_0, x2_0_1, x2_0_2⟩, ⟨x2_1_0, x2_1_1, x2_1_2⟩⟩ := x2
  refine VO_cG [2] (w_l4Free (Tl1Cur.mk x1_0 x1_1 x1_2) 3 hx2) ?_
  rintro _ _ ⟨rfl, rfl⟩
  show VO _ _ _ _ ⟨(_, .d (.st [.i .i64 x2_0_0, .s x2_0_1, .sl 3 (eTypes x2_0_2)])) :: _, [.box [.d (.i .i64 0), .d (.s []), .nilsl], .box [.d (.i .i64 0), .d (.s []), .nilsl], .box [.d (.sl 1 (eBytes x2_1_0)), .d (.i .i64 x2_1_1), .d (.i .i64 x2_1_2)]], _⟩ _
  refine goL ?_
  obtain ⟨x3, hx3, h⟩ := bnd_s h
  obtain ⟨⟨x3_0_0, x3_0_1, x3_0_2⟩, ⟨x3_1_0, x3_1_1, x3_1_2⟩⟩ := x3
  refine VO_cG [2] (w_l4Free (Tl1Cur.mk x2_1_0 x2_1_1 x2_1_2) 3 hx3) ?_
  rintro _ _ ⟨rfl, rfl⟩
  show VO _ _ _ _ ⟨(_, .d (.st [.i .i64 x3_0_0, .s x3_0_1, .sl 3 (eTypes x3_0_2)])) :: _, [.box [.d (.i .i64 0), .d (.s []), .nilsl], .box [.d (.i .i64 0), .d (.s []), .nilsl], .box [.d (.sl 1 (eBytes x3_1_0)), .d (.i .i64 x3_1_1), .d (.i .i64 x3_1_2)], .box [.d (.i .i64 x2_0_0), .d (.s x2_0_1), .d (.sl 3 (eTypes x2_0_2))]], _⟩ _
  refine goL ?_
  obtain ⟨x4, hx4, h⟩ := bnd_s h
  obtain ⟨x4_0, ⟨x4_1_0, x4_1_1, x4_1_2⟩⟩ := x4
  refine VO_cG [2] (w_l1Below (Tl1Cur.mk x3_1_0 x3_1_1 x3_1_2) 4 hx4) ?_
  rintro _ _ ⟨rfl, rfl⟩
  show VO _ _ _ _ ⟨(_, .d (.i .i64 x4_0)) :: _, [.box [.d (.i .i64 0), .d (.s []), .nilsl], .box [.d (.i .i64 0), .d (.s []), .nilsl], .box [.d (.sl 1 (eBytes x4_1_0)), .d (.i .i64 x4_1_1), .d (.i .i64 x4_1_2)], .box [.d (.i .i64 x2_0_0), .d (.s x2_0_1), .d (.sl 3 (eTypes x2_0_2))], .box [.d (.i .i64 x3_0_0), .d (.s x3_0_1), .d (.sl 3 (eTypes x3_0_2))]], _⟩ _
  refine goL ?_
  refine V_block ?_
  refine goL ?_
  refine V_cb (fun c5 => ?_) (fun c5 => ?_)
  · replace h := cnd_t c5 h
    obtain ⟨x6, hx6, h⟩ := bnd_s h
    obtain ⟨x6_0, ⟨x6_1_0, x6_1_1, x6_1_2⟩⟩ := x6
    obtain ⟨g7, h⟩ := gd_s h
    obtain ⟨x8, hx8, h⟩ := lt_x h
    obtain ⟨x8_0, x8_1, x8_2⟩ := x8
    have sx8 := t_sApply x6_0 (TType.mk x2_0_0 x2_0_1 x2_0_2) g7
    rw [hx8] at sx8
    refine V_drawTJ (P := Try.prog) Mix.h (.q 0 (.h 1 (.h 2 (.h 3 (.h 4 .nil .nil) .nil) .nil) (.h 2 (.h 1 (.h 3 (.h 4 .nil .nil) .nil) .nil) .nil))) ⟨[(2, .ptr 0 0), (3, .ptr 1 0), (5, .ptr 3 0), (6, .ptr 4 0)], [.box [.d (.i .i64 0), .d (.s []), .nilsl], .box [.d (.i .i64 0), .d (.s []), .nilsl], .box [.d (.sl 1 (eBytes x6_1_0)), .d (.i .i64 x6_1_1), .d (.i .i64 x6_1_2)], .box [.d (.i .i64 x2_0_0), .d (.s x2_0_1), .d (.sl 3 (eTypes x2_0_2))], .box [.d (.i .i64 x8_0), .d (.s x8_1), .sl 5 0], .own 26 3 0 (eTypes x8_2)], Try.f30.ntmps⟩ (by kernel_rfl) ?_ ?_
    · refine goT ?_
      refine VT_h (VY_cG (sv := .d (.sl 4 (eBindings x6_0))) (L' := [.box [.d (.i .i64 0), .d (.s []), .nilsl], .box [.d (.i .i64 0), .d (.s []), .nilsl], .box [.d (.sl 1 (eBytes x6_1_0)), .d (.i .i64 x6_1_1), .d (.i .i64 x6_1_2)], .box [.d (.i .i64 x2_0_0), .d (.s x2_0_1), .d (.sl 3 (eTypes x2_0_2))], .box [.d (.i .i64 x3_0_0), .d (.s x3_0_1), .d (.sl 3 (eTypes x3_0_2))]]) [2] (t_l6Binds (Tl1Cur.mk x4_1_0 x4_1_1 x4_1_2) hx6) VY_e) ?_ ?_
      · refine VT_h1 (VY_dh VY_e) ?_
        refine VT_h1 (VY_co (sx8) VY_e) ?_
        refine goT ?_
        refine VT_nil ?_
        exact R_pk 0 [0, 1, 2, 3, 4, 5]
      refine VT_h1 (VY_dh VY_e) ?_
      refine VT_h1 (VY_cG (sv := .d (.sl 4 (eBindings x6_0))) (L' := [.box [.d (.i .i64 0), .d (.s []), .nilsl], .box [.d (.i .i64 0), .d (.s []), .nilsl], .box [.d (.sl 1 (eBytes x6_1_0)), .d (.i .i64 x6_1_1), .d (.i .i64 x6_1_2)], .box [.d (.i .i64 x2_0_0), .d (.s x2_0_1), .d (.sl 3 (eTypes x2_0_2))], .box [.d (.i .i64 x3_0_0), .d (.s x3_0_1), .d (.sl 3 (eTypes x3_0_2))]]) [2] (t_l6Binds (Tl1Cur.mk x4_1_0 x4_1_1 x4_1_2) hx6) VY_e) ?_
      refine VT_h1 (VY_co (sx8) VY_e) ?_
      refine goT ?_
      refine VT_nil ?_
      exact R_pk 0 [0, 1, 2, 3, 4, 5]
    refine goNL ?_
    refine V_seq_drawTJ (P := Try.prog) Mix.h (.h 0 (.h 1 (.h 2 (.h 3 .nil .nil) .nil) (.h 2 (.h 1 (.h 3 .nil .nil) .nil) .nil)) (.h 1 (.h 0 (.h 2 (.h 3 .nil .nil) .nil) .nil) .nil)) ⟨[(2, .ptr 0 0), (3, .ptr 1 0)], [.box [.d (.i .i64 x2_0_0), .d (.s x2_0_1), .d (.sl 3 (eTypes x2_0_2))], .box [.d (.i .i64 x8_0), .d (.s x8_1), .sl 5 0], .box [.d (.sl 1 (eBytes x6_1_0)), .d (.i .i64 x6_1_1), .d (.i .i64 x6_1_2)], .box [.d (.i .i64 x2_0_0), .d (.s x2_0_1), .d (.sl 3 (eTypes x2_0_2))], .box [.d (.i .i64 x8_0), .d (.s x8_1), .sl 5 0], .own 26 3 0 (eTypes x8_2)], Try.f30.ntmps⟩ (by kernel_rfl) ?_ ?_
    · refine VT_h (VY_dh VY_e) ?_ ?_
      · refine VT_h (VY_dh VY_e) ?_ ?_
        · refine goT ?_
          refine VT_nil ?_
          exact R_pk 0 [0, 1, 2, 3, 4, 5]
        refine goT ?_
        refine VT_h1 (VY_dh VY_e) ?_
        refine goT ?_
        refine VT_nil ?_
        exact R_pk 0 [0, 1, 2, 3, 4, 5]
      refine VT_h1 (VY_dh VY_e) ?_
      refine VT_h1 (VY_dh VY_e) ?_
      refine goT ?_
      refine VT_nil ?_
      exact R_pk 0 [0, 1, 2, 3, 4, 5]
    refine goL ?_
    refine V_freezeO 5 rfl rfl ?_
    refine V_ret ?_
    replace h := Option.some.inj h
    subst h
    exact R_rP
  · replace h := cnd_f c5 h
    refine goL ?_
    refine V_cb (fun c9 => ?_) (fun c9 => ?_)
    · replace h := cnd_t c9 h
      refine goL ?_
      refine VO_lb (us := eStrs [[97], [98], [99], [100]]) ?_
      refine VO_freeze 5 rfl rfl ?_
      obtain ⟨x10, hx10, h⟩ := bnd_s h
      obtain ⟨⟨x10_0_0, x10_0_1, x10_0_2⟩, ⟨x10_1_0, x10_1_1, x10_1_2⟩⟩ := x10
      refine VO_cG [2] (s_l4Ty 8 (Tl1Cur.mk x4_1_0 x4_1_1 x4_1_2) [[97], [98], [99], [100]] 3 hx10) ?_
      rintro _ _ ⟨rfl, rfl⟩
      show VO _ _ _ _ ⟨(_, .d (.st [.i .i64 x10_0_0, .s x10_0_1, .sl 3 (eTypes x10_0_2)])) :: _, [.box [.d (.i .i64 0), .d (.s []), .nilsl], .box [.d (.i .i64 0), .d (.s []), .nilsl], .box [.d (.sl 1 (eBytes x10_1_0)), .d (.i .i64 x10_1_1), .d (.i .i64 x10_1_2)], .box [.d (.i .i64 x2_0_0), .d (.s x2_0_1), .d (.sl 3 (eTypes x2_0_2))], .box [.d (.i .i64 x3_0_0), .d (.s x3_0_1), .d (.sl 3 (eTypes x3_0_2))], .frz 9 1 0 (eStrs [[97], [98], [99], [100]])], _⟩ _
      refine goNL ?_
      obtain ⟨x11, hx11, h⟩ := bnd_s h
      obtain ⟨⟨x11_0_0, x11_0_1, x11_0_2⟩, ⟨x11_1_0, x11_1_1, x11_1_2⟩⟩ := x11
      obtain ⟨g12, h⟩ := gd_s h
      obtain ⟨x13, hx13, h⟩ := lt_x h
      obtain ⟨x13_0, x13_1, x13_2⟩ := x13
      have sx13 := t_sApply [(TBinding.mk [97] (TType.mk x11_0_0 x11_0_1 x11_0_2))] (TType.mk x10_0_0 x10_0_1 x10_0_2) g12
      rw [hx13] at sx13
      refine V_seq_drawTJ (P := Try.prog) Mix.h (.q 0 (.h 1 (.h 2 (.q 3 (.h 4 (.h 5 (.h 6 (.h 7 .nil .nil) .nil) .nil) (.h 5 (.h 4 (.h 6 (.h 7 .nil .nil) .nil) .nil) .nil))) (.h 5 (.h 2 (.q 3 (.h 4 (.h 6 (.h 7 .nil .nil) .nil) .nil)) .nil) .nil)) (.h 5 (.h 1 (.h 2 (.q 3 (.h 4 (.h 6 (.h 7 .nil .nil) .nil) .nil)) .nil) .nil) .nil))) ⟨[(2, .ptr 0 0), (3, .ptr 1 0), (4, .ptr 2 0), (5, .ptr 3 0), (6, .ptr 4 0), (7, .ptr 6 0)], [.box [.d (.i .i64 0), .d (.s []), .nilsl], .box [.d (.i .i64 0), .d (.s []), .nilsl], .box [.d (.sl 1 (eBytes x11_1_0)), .d (.i .i64 x11_1_1), .d (.i .i64 x11_1_2)], .box [.d (.i .i64 x13_0), .d (.s x13_1), .sl 9 0], .box [.d (.i .i64 x3_0_0), .d (.s x3_0_1), .d (.sl 3 (eTypes x3_0_2))], .frz 9 1 0 (eStrs [[97], [98], [99], [100]]), .box [.d (.i .i64 x10_0_0), .d (.s x10_0_1), .d (.sl 3 (eTypes x10_0_2))], .frz 9 1 0 (eStrs [[98]]), .arr 40 4 0 (eBindings [(TBinding.mk [97] (TType.mk x11_0_0 x11_0_1 x11_0_2))]), .own 26 3 0 (eTypes x13_2)], Try.f30.ntmps⟩ (by kernel_rfl) ?_ ?_
      · refine goT ?_
        refine VT_h (VY_l1t (T := 29) ([98] : List UInt8) VY_e) ?_ ?_
        · refine VT_h (VY_frzO 7 rfl rfl (VY_cG (sv := .d (.st [.i .i64 x11_0_0, .s x11_0_1, .sl 3 (eTypes x11_0_2)])) (L' := [.box [.d (.i .i64 0), .d (.s []), .nilsl], .box [.d (.i .i64 0), .d (.s []), .nilsl], .box [.d (.sl 1 (eBytes x11_1_0)), .d (.i .i64 x11_1_1), .d (.i .i64 x11_1_2)], .box [.d (.i .i64 x2_0_0), .d (.s x2_0_1), .d (.sl 3 (eTypes x2_0_2))], .box [.d (.i .i64 x3_0_0), .d (.s x3_0_1), .d (.sl 3 (eTypes x3_0_2))], .frz 9 1 0 (eStrs [[97], [98], [99], [100]]), .box [.d (.i .i64 x10_0_0), .d (.s x10_0_1), .d (.sl 3 (eTypes x10_0_2))], .frz 9 1 0 (eStrs [[98]])]) [2] (s_l4Ty 8 (Tl1Cur.mk x10_1_0 x10_1_1 x10_1_2) [[98]] 1 hx11) VY_e)) ?_ ?_
          · refine goT ?_
            refine VT_h (VY_lb (T := 32) (us := eBindings [(TBinding.mk [97] (TType.mk x11_0_0 x11_0_1 x11_0_2))]) VY_e) ?_ ?_
            · refine VT_h1 (VY_dh VY_e) ?_
              refine VT_h1 (VY_co (sx13) VY_e) ?_
              refine goT ?_
              refine VT_nil ?_
              exact R_pk 0 [0, 1, 2, 3, 4, 5, 6, 7, 8, 9]
            refine VT_h1 (VY_dh VY_e) ?_
            refine VT_h1 (VY_lb (T := 32) (us := eBindings [(TBinding.mk [97] (TType.mk x11_0_0 x11_0_1 x11_0_2))]) VY_e) ?_
            refine VT_h1 (VY_co (sx13) VY_e) ?_
            refine goT ?_
            refine VT_nil ?_
            exact R_pk 0 [0, 1, 2, 3, 4, 5, 6, 7, 8, 9]
          refine VT_h1 (VY_dh VY_e) ?_
          refine VT_h1 (VY_frzO 7 rfl rfl (VY_cG (sv := .d (.st [.i .i64 x11_0_0, .s x11_0_1, .sl 3 (eTypes x11_0_2)])) (L' := [.box [.d (.i .i64 0), .d (.s []), .nilsl], .box [.d (.i .i64 0), .d (.s []), .nilsl], .box [.d (.sl 1 (eBytes x11_1_0)), .d (.i .i64 x11_1_1), .d (.i .i64 x11_1_2)], .box [.d (.i .i64 x2_0_0), .d (.s x2_0_1), .d (.sl 3 (eTypes x2_0_2))], .box [.d (.i .i64 x3_0_0), .d (.s x3_0_1), .d (.sl 3 (eTypes x3_0_2))], .frz 9 1 0 (eStrs [[97], [98], [99], [100]]), .box [.d (.i .i64 x10_0_0), .d (.s x10_0_1), .d (.sl 3 (eTypes x10_0_2))], .frz 9 1 0 (eStrs [[98]])]) [2] (s_l4Ty 8 (Tl1Cur.mk x10_1_0 x10_1_1 x10_1_2) [[98]] 1 hx11) VY_e)) ?_
          refine goT ?_
          refine VT_h1 (VY_lb (T := 32) (us := eBindings [(TBinding.mk [97] (TType.mk x11_0_0 x11_0_1 x11_0_2))]) VY_e) ?_
          refine VT_h1 (VY_co (sx13) VY_e) ?_
          refine goT ?_
          refine VT_nil ?_
          exact R_pk 0 [0, 1, 2, 3, 4, 5, 6, 7, 8, 9]
        refine VT_h1 (VY_dh VY_e) ?_
        refine VT_h1 (VY_l1t (T := 29) ([98] : List UInt8) VY_e) ?_
        refine VT_h1 (VY_frzO 7 rfl rfl (VY_cG (sv := .d (.st [.i .i64 x11_0_0, .s x11_0_1, .sl 3 (eTypes x11_0_2)])) (L' := [.box [.d (.i .i64 0), .d (.s []), .nilsl], .box [.d (.i .i64 0), .d (.s []), .nilsl], .box [.d (.sl 1 (eBytes x11_1_0)), .d (.i .i64 x11_1_1), .d (.i .i64 x11_1_2)], .box [.d (.i .i64 x2_0_0), .d (.s x2_0_1), .d (.sl 3 (eTypes x2_0_2))], .box [.d (.i .i64 x3_0_0), .d (.s x3_0_1), .d (.sl 3 (eTypes x3_0_2))], .frz 9 1 0 (eStrs [[97], [98], [99], [100]]), .box [.d (.i .i64 x10_0_0), .d (.s x10_0_1), .d (.sl 3 (eTypes x10_0_2))], .frz 9 1 0 (eStrs [[98]])]) [2] (s_l4Ty 8 (Tl1Cur.mk x10_1_0 x10_1_1 x10_1_2) [[98]] 1 hx11) VY_e)) ?_
        refine goT ?_
        refine VT_h1 (VY_lb (T := 32) (us := eBindings [(TBinding.mk [97] (TType.mk x11_0_0 x11_0_1 x11_0_2))]) VY_e) ?_
        refine VT_h1 (VY_co (sx13) VY_e) ?_
        refine goT ?_
        refine VT_nil ?_
        exact R_pk 0 [0, 1, 2, 3, 4, 5, 6, 7, 8, 9]
      refine goNL ?_
      obtain ⟨x14, hx14, h⟩ := bnd_s h
      obtain ⟨⟨x14_0_0, x14_0_1, x14_0_2⟩, ⟨x14_1_0, x14_1_1, x14_1_2⟩⟩ := x14
      obtain ⟨g15, h⟩ := gd_s h
      obtain ⟨x16, hx16, h⟩ := lt_x h
      obtain ⟨x16_0, x16_1, x16_2⟩ := x16
      have sx16 := t_sApply [(TBinding.mk [99] (TType.mk x14_0_0 x14_0_1 x14_0_2))] (TType.mk x10_0_0 x10_0_1 x10_0_2) g15
      rw [hx16] at sx16
      refine V_drawTJ (P := Try.prog) Mix.h (.q 0 (.h 1 (.h 2 (.q 3 (.h 4 (.h 5 (.h 6 (.h 7 .nil .nil) .nil) .nil) (.h 5 (.h 4 (.h 6 (.h 7 .nil .nil) .nil) .nil) .nil))) (.h 5 (.h 2 (.q 3 (.h 4 (.h 6 (.h 7 .nil .nil) .nil) .nil)) .nil) .nil)) (.h 5 (.h 1 (.h 2 (.q 3 (.h 4 (.h 6 (.h 7 .nil .nil) .nil) .nil)) .nil) .nil) .nil))) ⟨[(2, .ptr 0 0), (3, .ptr 1 0), (5, .ptr 3 0), (6, .ptr 4 0)], [.box [.d (.i .i64 0), .d (.s []), .nilsl], .box [.d (.i .i64 0), .d (.s []), .nilsl], .box [.d (.sl 1 (eBytes x14_1_0)), .d (.i .i64 x14_1_1), .d (.i .i64 x14_1_2)], .box [.d (.i .i64 x13_0), .d (.s x13_1), .sl 9 0], .box [.d (.i .i64 x16_0), .d (.s x16_1), .sl 12 0], .frz 9 1 0 (eStrs [[97], [98], [99], [100]]), .box [.d (.i .i64 x10_0_0), .d (.s x10_0_1), .d (.sl 3 (eTypes x10_0_2))], .frz 9 1 0 (eStrs [[98]]), .arr 40 4 0 (eBindings [(TBinding.mk [97] (TType.mk x11_0_0 x11_0_1 x11_0_2))]), .own 26 3 0 (eTypes x13_2), .frz 9 1 0 (eStrs [[100]]), .arr 40 4 0 (eBindings [(TBinding.mk [99] (TType.mk x14_0_0 x14_0_1 x14_0_2))]), .own 26 3 0 (eTypes x16_2)], Try.f30.ntmps⟩ (by kernel_rfl) ?_ ?_
      · refine goT ?_
        refine VT_h (VY_l1t (T := 29) ([100] : List UInt8) VY_e) ?_ ?_
        · refine VT_h (VY_frzO 10 rfl rfl (VY_cG (sv := .d (.st [.i .i64 x14_0_0, .s x14_0_1, .sl 3 (eTypes x14_0_2)])) (L' := [.box [.d (.i .i64 0), .d (.s []), .nilsl], .box [.d (.i .i64 0), .d (.s []), .nilsl], .box [.d (.sl 1 (eBytes x14_1_0)), .d (.i .i64 x14_1_1), .d (.i .i64 x14_1_2)], .box [.d (.i .i64 x13_0), .d (.s x13_1), .sl 9 0], .box [.d (.i .i64 x3_0_0), .d (.s x3_0_1), .d (.sl 3 (eTypes x3_0_2))], .frz 9 1 0 (eStrs [[97], [98], [99], [100]]), .box [.d (.i .i64 x10_0_0), .d (.s x10_0_1), .d (.sl 3 (eTypes x10_0_2))], .frz 9 1 0 (eStrs [[98]]), .arr 40 4 0 (eBindings [(TBinding.mk [97] (TType.mk x11_0_0 x11_0_1 x11_0_2))]), .own 26 3 0 (eTypes x13_2), .frz 9 1 0 (eStrs [[100]])]) [2] (s_l4Ty 8 (Tl1Cur.mk x11_1_0 x11_1_1 x11_1_2) [[100]] 1 hx14) VY_e)) ?_ ?_
          · refine goT ?_
            refine VT_h (VY_lb (T := 32) (us := eBindings [(TBinding.mk [99] (TType.mk x14_0_0 x14_0_1 x14_0_2))]) VY_e) ?_ ?_
            · refine VT_h1 (VY_dh VY_e) ?_
              refine VT_h1 (VY_co (sx16) VY_e) ?_
              refine goT ?_
              refine VT_nil ?_
              exact R_pk 0 [0, 1, 2, 3, 4, 5, 6, 7, 8, 9, 10, 11, 12]
            refine VT_h1 (VY_dh VY_e) ?_
            refine VT_h1 (VY_lb (T := 32) (us := eBindings [(TBinding.mk [99] (TType.mk x14_0_0 x14_0_1 x14_0_2))]) VY_e) ?_
            refine VT_h1 (VY_co (sx16) VY_e) ?_
            refine goT ?_
            refine VT_nil ?_
            exact R_pk 0 [0, 1, 2, 3, 4, 5, 6, 7, 8, 9, 10, 11, 12]
          refine VT_h1 (VY_dh VY_e) ?_
          refine VT_h1 (VY_frzO 10 rfl rfl (VY_cG (sv := .d (.st [.i .i64 x14_0_0, .s x14_0_1, .sl 3 (eTypes x14_0_2)])) (L' := [.box [.d (.i .i64 0), .d (.s []), .nilsl], .box [.d (.i .i64 0), .d (.s []), .nilsl], .box [.d (.sl 1 (eBytes x14_1_0)), .d (.i .i64 x14_1_1), .d (.i .i64 x14_1_2)], .box [.d (.i .i64 x13_0), .d (.s x13_1), .sl 9 0], .box [.d (.i .i64 x3_0_0), .d (.s x3_0_1), .d (.sl 3 (eTypes x3_0_2))], .frz 9 1 0 (eStrs [[97], [98], [99], [100]]), .box [.d (.i .i64 x10_0_0), .d (.s x10_0_1), .d (.sl 3 (eTypes x10_0_2))], .frz 9 1 0 (eStrs [[98]]), .arr 40 4 0 (eBindings [(TBinding.mk [97] (TType.mk x11_0_0 x11_0_1 x11_0_2))]), .own 26 3 0 (eTypes x13_2), .frz 9 1 0 (eStrs [[100]])]) [2] (s_l4Ty 8 (Tl1Cur.mk x11_1_0 x11_1_1 x11_1_2) [[100]] 1 hx14) VY_e)) ?_
          refine goT ?_
          refine VT_h1 (VY_lb (T := 32) (us := eBindings [(TBinding.mk [99] (TType.mk x14_0_0 x14_0_1 x14_0_2))]) VY_e) ?_
          refine VT_h1 (VY_co (sx16) VY_e) ?_
          refine goT ?_
          refine VT_nil ?_
          exact R_pk 0 [0, 1, 2, 3, 4, 5, 6, 7, 8, 9, 10, 11, 12]
        refine VT_h1 (VY_dh VY_e) ?_
        refine VT_h1 (VY_l1t (T := 29) ([100] : List UInt8) VY_e) ?_
        refine VT_h1 (VY_frzO 10 rfl rfl (VY_cG (sv := .d (.st [.i .i64 x14_0_0, .s x14_0_1, .sl 3 (eTypes x14_0_2)])) (L' := [.box [.d (.i .i64 0), .d (.s []), .nilsl], .box [.d (.i .i64 0), .d (.s []), .nilsl], .box [.d (.sl 1 (eBytes x14_1_0)), .d (.i .i64 x14_1_1), .d (.i .i64 x14_1_2)], .box [.d (.i .i64 x13_0), .d (.s x13_1), .sl 9 0], .box [.d (.i .i64 x3_0_0), .d (.s x3_0_1), .d (.sl 3 (eTypes x3_0_2))], .frz 9 1 0 (eStrs [[97], [98], [99], [100]]), .box [.d (.i .i64 x10_0_0), .d (.s x10_0_1), .d (.sl 3 (eTypes x10_0_2))], .frz 9 1 0 (eStrs [[98]]), .arr 40 4 0 (eBindings [(TBinding.mk [97] (TType.mk x11_0_0 x11_0_1 x11_0_2))]), .own 26 3 0 (eTypes x13_2), .frz 9 1 0 (eStrs [[100]])]) [2] (s_l4Ty 8 (Tl1Cur.mk x11_1_0 x11_1_1 x11_1_2) [[100]] 1 hx14) VY_e)) ?_
        refine goT ?_
        refine VT_h1 (VY_lb (T := 32) (us := eBindings [(TBinding.mk [99] (TType.mk x14_0_0 x14_0_1 x14_0_2))]) VY_e) ?_
        refine VT_h1 (VY_co (sx16) VY_e) ?_
        refine goT ?_
        refine VT_nil ?_
        exact R_pk 0 [0, 1, 2, 3, 4, 5, 6, 7, 8, 9, 10, 11, 12]
      refine goNL ?_
      refine V_seq_drawTJ (P := Try.prog) Mix.h (.h 0 (.h 1 (.h 2 (.h 3 .nil .nil) .nil) (.h 2 (.h 1 (.h 3 .nil .nil) .nil) .nil)) (.h 1 (.h 0 (.h 2 (.h 3 .nil .nil) .nil) .nil) .nil)) ⟨[(2, .ptr 0 0), (3, .ptr 1 0)], [.box [.d (.i .i64 x13_0), .d (.s x13_1), .sl 9 0], .box [.d (.i .i64 x16_0), .d (.s x16_1), .sl 12 0], .box [.d (.sl 1 (eBytes x14_1_0)), .d (.i .i64 x14_1_1), .d (.i .i64 x14_1_2)], .box [.d (.i .i64 x13_0), .d (.s x13_1), .sl 9 0], .box [.d (.i .i64 x16_0), .d (.s x16_1), .sl 12 0], .frz 9 1 0 (eStrs [[97], [98], [99], [100]]), .box [.d (.i .i64 x10_0_0), .d (.s x10_0_1), .d (.sl 3 (eTypes x10_0_2))], .frz 9 1 0 (eStrs [[98]]), .arr 40 4 0 (eBindings [(TBinding.mk [97] (TType.mk x11_0_0 x11_0_1 x11_0_2))]), .own 26 3 0 (eTypes x13_2), .frz 9 1 0 (eStrs [[100]]), .arr 40 4 0 (eBindings [(TBinding.mk [99] (TType.mk x14_0_0 x14_0_1 x14_0_2))]), .own 26 3 0 (eTypes x16_2)], Try.f30.ntmps⟩ (by kernel_rfl) ?_ ?_
      · refine VT_h (VY_dh VY_e) ?_ ?_
        · refine VT_h (VY_dh VY_e) ?_ ?_
          · refine goT ?_
            refine VT_nil ?_
            exact R_pk 0 [0, 1, 2, 3, 4, 5, 6, 7, 8, 9, 10, 11, 12]
          refine goT ?_
          refine VT_h1 (VY_dh VY_e) ?_
          refine goT ?_
          refine VT_nil ?_
          exact R_pk 0 [0, 1, 2, 3, 4, 5, 6, 7, 8, 9, 10, 11, 12]
        refine VT_h1 (VY_dh VY_e) ?_
        refine VT_h1 (VY_dh VY_e) ?_
        refine goT ?_
        refine VT_nil ?_
        exact R_pk 0 [0, 1, 2, 3, 4, 5, 6, 7, 8, 9, 10, 11, 12]
      refine goL ?_
      refine V_freezeO 9 rfl rfl ?_
      refine V_freezeO 12 rfl rfl ?_
      refine V_ret ?_
      replace h := Option.some.inj h
      subst h
      exact R_rP
    · replace h := cnd_f c9 h
      refine V_skip ?_
      show V _ _ _ _ _
      refine V_seq_drawTJ (P := Try.prog) Mix.h (.h 0 (.h 1 (.h 2 (.h 3 .nil .nil) .nil) (.h 2 (.h 1 (.h 3 .nil .nil) .nil) .nil)) (.h 1 (.h 0 (.h 2 (.h 3 .nil .nil) .nil) .nil) .nil)) ⟨[(2, .ptr 0 0), (3, .ptr 1 0)], [.box [.d (.i .i64 x2_0_0), .d (.s x2_0_1), .d (.sl 3 (eTypes x2_0_2))], .box [.d (.i .i64 x3_0_0), .d (.s x3_0_1), .d (.sl 3 (eTypes x3_0_2))], .box [.d (.sl 1 (eBytes x4_1_0)), .d (.i .i64 x4_1_1), .d (.i .i64 x4_1_2)], .box [.d (.i .i64 x2_0_0), .d (.s x2_0_1), .d (.sl 3 (eTypes x2_0_2))], .box [.d (.i .i64 x3_0_0), .d (.s x3_0_1), .d (.sl 3 (eTypes x3_0_2))]], Try.f30.ntmps⟩ (by kernel_rfl) ?_ ?_
      · refine VT_h (VY_dh VY_e) ?_ ?_
        · refine VT_h (VY_dh VY_e) ?_ ?_
          · refine goT ?_
            refine VT_nil ?_
            exact R_pk 0 [0, 1, 2, 3, 4]
          refine goT ?_
          refine VT_h1 (VY_dh VY_e) ?_
          refine goT ?_
          refine VT_nil ?_
          exact R_pk 0 [0, 1, 2, 3, 4]
        refine VT_h1 (VY_dh VY_e) ?_
        refine VT_h1 (VY_dh VY_e) ?_
        refine goT ?_
        refine VT_nil ?_
        exact R_pk 0 [0, 1, 2, 3, 4]
      refine goL ?_
      refine V_ret ?_
      replace h := Option.some.inj h
      subst h
      exact R_rP
def b_drawUnify (a0 : List UInt8) : Option (TType × TType) :=
bnd (b_l8Two a0) fun x1 =>
(some (x1.1, x1.2))
set_option maxHeartbeats 4000000 in
theorem w_drawUnify (a0 : List UInt8) {r : TType × TType} (h : b_drawUnify a0 = some r) : SpecP Try.prog 17 [.d (.sl 1 (eBytes a0))] [eType r.1, eType r.2] := by
  unfold b_drawUnify at h
  refine SpecP_intro Try.func17 rfl (by kernel_rfl) rfl fun A _ => ?_
  refine goL ?_
  obtain ⟨x1, hx1, h⟩ := bnd_s h
  obtain ⟨⟨x1_0_0, x1_0_1, x1_0_2⟩, ⟨x1_1_0, x1_1_1, x1_1_2⟩⟩ := x1
  refine VO_r (QR_call (w_l8Two a0 hx1)) ?_
  refine goL ?_
  refine V_ret ?_
  replace h := Option.some.inj h
  subst h
  exact R_rP
def b_FnUnify_l1 (x11 : TType) : List TBinding → Option (Bool)
  | [] => (some true)
  | x22 :: xs => (cnd (b_iOccurs x22.var_ x11) (
(some false)) (
b_FnUnify_l1 x11 xs ))
def b_FnUnify (a0 : List UInt8) : Option (Bool) :=
(cnd (b_big a0) (
(some true)) (
bnd (b_drawUnify a0) fun x2 =>
bnd (b_iUnifyF x2.1 x2.2) fun x3 =>
bnd (b_sUnifyF x2.1 x2.2) fun x4 =>
bnd ((cnd (!(x3.2 == x4.2)) ((some true)) (bnd (b_sEqB x3.1 x4.1) fun x7 =>
(some (!x7))))) fun b5 =>
(cnd b5 (
(some false)) (
(cnd (!x3.2) (
(some ((x3.1.length : Int) == 0))) (
gd (bok x3.1 ∧ tok x2.1) (lt_ (apT x3.1 x2.1) fun x11 =>
bnd (gd (bok x3.1 ∧ tok x2.2) (lt_ (apT x3.1 x2.2) fun x14 =>
(cnd (!(teq x11 x14)) ((some true)) (gd (bok x3.1 ∧ tok x11) (lt_ (apT x3.1 x11) fun x17 =>
(some (!(teq x17 x11)))))))) fun b12 =>
(cnd b12 (
(some false)) (
b_FnUnify_l1 x11 x3.1 )))))))))
set_option maxHeartbeats 4000000 in
theorem w_FnUnify (a0 : List UInt8) {r : Bool} (h : b_FnUnify a0 = some r) : SpecP Try.prog 4 [.d (.sl 1 (eBytes a0))] [.b r] := by
  unfold b_FnUnify at h
  refine SpecP_intro Try.func4 rfl (by kernel_rfl) rfl fun A _ => ?_
  refine goL ?_
  refine VO_r (QR_call (w_big a0)) ?_
  refine goL ?_
  refine V_cb (fun c1 => ?_) (fun c1 => ?_)
  · replace h := cnd_t c1 h
    refine goL ?_
    refine V_ret ?_
    replace h := Option.some.inj h
    subst h
    exact R_rP
  · replace h := cnd_f c1 h
    refine V_skip ?_
    show V _ _ _ _ _
    refine goL ?_
    obtain ⟨x2, hx2, h⟩ := bnd_s h
    obtain ⟨⟨x2_0_0, x2_0_1, x2_0_2⟩, ⟨x2_1_0, x2_1_1, x2_1_2⟩⟩ := x2
    refine VO_r (QR_call (w_drawUnify a0 hx2)) ?_
    refine goL ?_
    obtain ⟨x3, hx3, h⟩ := bnd_s h
    obtain ⟨x3_0, x3_1⟩ := x3
    refine VO_r (QR_call (w_iUnifyF (TType.mk x2_0_0 x2_0_1 x2_0_2) (TType.mk x2_1_0 x2_1_1 x2_1_2) hx3)) ?_
    refine goL ?_
    obtain ⟨x4, hx4, h⟩ := bnd_s h
    obtain ⟨x4_0, x4_1⟩ := x4
    refine VO_r (QR_call (w_sUnifyF (TType.mk x2_0_0 x2_0_1 x2_0_2) (TType.mk x2_1_0 x2_1_1 x2_1_2) hx4)) ?_
    refine goL ?_
    obtain ⟨b5, hb5, h⟩ := bnd_s h
    refine VO_join ⟨[(3, .ptr 0 0), (4, .ptr 1 0), (5, .d (.sl 4 (eBindings x3_0))), (6, .d (.b x3_1)), (38, .d (.b b5))], [.box [.d (.i .i64 x2_0_0), .d (.s x2_0_1), .d (.sl 3 (eTypes x2_0_2))], .box [.d (.i .i64 x2_1_0), .d (.s x2_1_1), .d (.sl 3 (eTypes x2_1_2))]], Try.f4.ntmps⟩ ?_ ?_
    · refine VO_case 33 (fun c6 => ?_) (fun c6 => ?_)
      · replace hb5 := cnd_t c6 hb5
        refine goL ?_
        cases hb5
        exact ⟨rfl, ⟨⟨rfl, rfl⟩, ⟨rfl, rfl⟩, ⟨rfl, rfl⟩, ⟨rfl, rfl⟩, ⟨rfl, rfl⟩, trivial⟩, ⟨[], rfl⟩, rfl⟩
      · replace hb5 := cnd_f c6 hb5
        refine goL ?_
        refine VO_b ?_
        obtain ⟨x7, hx7, hb5⟩ := bnd_s hb5
        refine VO_r (QR_call (w_sEqB x3_0 x4_0 hx7)) ?_
        refine goL ?_
        cases hb5
        exact ⟨rfl, ⟨⟨rfl, rfl⟩, ⟨rfl, rfl⟩, ⟨rfl, rfl⟩, ⟨rfl, rfl⟩, ⟨rfl, rfl⟩, trivial⟩, ⟨[], rfl⟩, rfl⟩
    refine goL ?_
    refine V_cb (fun c8 => ?_) (fun c8 => ?_)
    · replace h := cnd_t c8 h
      refine goL ?_
      refine V_ret ?_
      replace h := Option.some.inj h
      subst h
      exact R_rP
    · replace h := cnd_f c8 h
      refine V_skip ?_
      show V _ _ _ _ _
      refine goL ?_
      refine V_cb (fun c9 => ?_) (fun c9 => ?_)
      · replace h := cnd_t c9 h
        refine goL ?_
        refine V_ret ?_
        replace h := Option.some.inj h
        subst h
        exact R_rP
      · replace h := cnd_f c9 h
        refine V_skip ?_
        show V _ _ _ _ _
        refine goL ?_
        obtain ⟨g10, h⟩ := gd_s h
        obtain ⟨x11, hx11, h⟩ := lt_x h
        obtain ⟨x11_0, x11_1, x11_2⟩ := x11
        have sx11 := (t_iApply x3_0 (TType.mk x2_0_0 x2_0_1 x2_0_2) g10).p
        rw [hx11] at sx11
        refine VO_r (QR_call (sx11)) ?_
        refine goNL ?_
        obtain ⟨b12, hb12, h⟩ := bnd_s h
        refine V_seqJ_draw (P := Try.prog) Mix.h ⟨[(5, .d (.sl 4 (eBindings x3_0))), (9, .ptr 2 0), (60, .d (.b b12))], [.box [.d (.i .i64 x2_0_0), .d (.s x2_0_1), .d (.sl 3 (eTypes x2_0_2))], .box [.d (.i .i64 x2_1_0), .d (.s x2_1_1), .d (.sl 3 (eTypes x2_1_2))], .box [.d (.i .i64 x11_0), .d (.s x11_1), .d (.sl 3 (eTypes x11_2))]], Try.f4.ntmps⟩ (by kernel_rfl) ?_ ?_
        · refine goL ?_
          obtain ⟨g13, hb12⟩ := gd_s hb12
          obtain ⟨x14, hx14, hb12⟩ := lt_x hb12
          obtain ⟨x14_0, x14_1, x14_2⟩ := x14
          have sx14 := (t_iApply x3_0 (TType.mk x2_1_0 x2_1_1 x2_1_2) g13).p
          rw [hx14] at sx14
          refine VQ_r (QR_call (sx14)) ?_
          refine VQ_r (QR_call (t_sEqualType (TType.mk x11_0 x11_1 x11_2) (TType.mk x14_0 x14_1 x14_2))) ?_
          refine goL ?_
          refine VQ_case 53 (fun c15 => ?_) (fun c15 => ?_)
          · replace hb12 := cnd_t c15 hb12
            refine goL ?_
            cases hb12
            exact ⟨rfl, ⟨⟨rfl, rfl⟩, ⟨rfl, rfl⟩, ⟨rfl, rfl⟩, trivial⟩, ⟨[], rfl⟩, rfl⟩
          · replace hb12 := cnd_f c15 hb12
            refine goL ?_
            obtain ⟨g16, hb12⟩ := gd_s hb12
            obtain ⟨x17, hx17, hb12⟩ := lt_x hb12
            obtain ⟨x17_0, x17_1, x17_2⟩ := x17
            have sx17 := (t_iApply x3_0 (TType.mk x11_0 x11_1 x11_2) g16).p
            rw [hx17] at sx17
            refine VQ_rg (QR_call (sx17)) ?_
            refine goL ?_
            refine VQ_rg (QR_call (t_sEqualType (TType.mk x17_0 x17_1 x17_2) (TType.mk x11_0 x11_1 x11_2))) ?_
            refine goL ?_
            cases hb12
            exact ⟨rfl, ⟨⟨rfl, rfl⟩, ⟨rfl, rfl⟩, ⟨rfl, rfl⟩, trivial⟩, ⟨[], rfl⟩, rfl⟩
        refine goL ?_
        refine V_cb (fun c18 => ?_) (fun c18 => ?_)
        · replace h := cnd_t c18 h
          refine goL ?_
          refine V_ret ?_
          replace h := Option.some.inj h
          subst h
          exact R_rP
        · replace h := cnd_f c18 h
          refine V_skip ?_
          show V _ _ _ _ _
          refine goL ?_
          refine V_block ?_
          show V _ _ _ _ _
          refine V_bd 5 (fun z20 => ?_)
          refine V_loop1 (fun (y19 : Nat) => ⟨[(5, .d (.sl 4 (eBindings x3_0))), (9, .ptr 2 0), (10, .d (.i .i64 (y19 : Int)))], [.box [.d (.i .i64 x2_0_0), .d (.s x2_0_1), .d (.sl 3 (eTypes x2_0_2))], .box [.d (.i .i64 x2_1_0), .d (.s x2_1_1), .d (.sl 3 (eTypes x2_1_2))], .box [.d (.i .i64 x11_0), .d (.s x11_1), .d (.sl 3 (eTypes x11_2))]], Try.f4.ntmps⟩) (fun y19 => b_FnUnify_l1 (TType.mk x11_0 x11_1 x11_2) (x3_0.drop y19)  = some r) (fun y19 => x3_0.length - y19) 0 ⟨rfl, ⟨⟨rfl, rfl⟩, ⟨rfl, rfl⟩, ⟨rfl, rfl⟩, trivial⟩, ⟨[], rfl⟩, rfl⟩ h ?_
          rintro y19 h
          refine goL ?_
          refine V_cb (fun c21 => ?_) (fun c21 => ?_)
          · have hky192 := kltN c21
            obtain ⟨x22, hx22, hdx22⟩ := drop_at hky192
            rw [hdx22, b_FnUnify_l1.eq_2] at h
            obtain ⟨x22_0, ⟨x22_1_0, x22_1_1, x22_1_2⟩⟩ := x22
            refine V_skip ?_
            show V _ _ _ _ _
            refine V_seq (V_block ?_)
            refine goL ?_
            refine VQ_r (QR_ixn y19 (gBinding hx22)) ?_
            refine goL ?_
            refine VQ_r (QR_call (w_iOccurs x22_0 (TType.mk x11_0 x11_1 x11_2))) ?_
            refine goL ?_
            refine V_cb (fun c23 => ?_) (fun c23 => ?_)
            · replace h := cnd_t c23 h
              refine goL ?_
              refine V_ret ?_
              replace h := Option.some.inj h
              subst h
              exact R_rP
            · replace h := cnd_f c23 h
              refine V_skip ?_
              show V _ _ _ _ _
              refine goL ?_
              refine VO_r (QR_inc y19 (by omega)) ?_
              refine goL ?_
              exact ⟨(y19 + 1), h, by omega, ⟨rfl, ⟨⟨rfl, rfl⟩, ⟨rfl, rfl⟩, ⟨rfl, rfl⟩, trivial⟩, ⟨_, rfl⟩, rfl⟩⟩
          · have hky192 := kgeN c21
            rw [drop_end hky192, b_FnUnify_l1.eq_1] at h
            refine V_exit ?_
            show V _ _ _ _ _
            refine goL ?_
            refine V_ret ?_
            replace h := Option.some.inj h
            subst h
            exact R_rP
end Go.Proofs.Ytdofnoeiogjpjaa

namespace Go.Proofs.Ytdofnoeiogjpjaa
open Go Go.Eng
attribute [local irreducible] V VO VQ VY Quiet QR SpecP SpecO MSpec Rng PostP PostO PostG
/-! ### the cursor, by hand -/
def curok (c : Tl1Cur) : Prop := 0 ≤ c.i ∧ c.b.length ≤ 1048576
theorem byte_ok (c : Tl1Cur) (h : curok c) : ∃ x c', b_l1Byte c = some (x, c') ∧ 0 ≤ x ∧ x ≤ 255 ∧ curok c' := by
  obtain ⟨h1, h2⟩ := h
  unfold b_l1Byte
  cases hc : decide (c.i < (c.b.length : Int)) with
  | true =>
    have h3 := of_decide_eq_true hc
    have hx : at? c.b c.i = some (c.b[c.i.toNat]'(by omega)) := by unfold at?; rw [if_pos h1]; exact List.getElem?_eq_getElem _
    simp only [cnd_true]
    rw [bnd_eq hx]
    refine ⟨_, _, rfl, (andI_255 _).1, (andI_255 _).2, ?_, h2⟩
    simp only
    rw [wrap_in _ (by omega) (by omega)]
    omega
  | false => exact ⟨_, _, rfl, (andI_255 _).1, (andI_255 _).2, h1, h2⟩
theorem below_ok (c : Tl1Cur) (n : Int) (h : curok c) (h0 : 0 < n) (h1 : n ≤ 256) : ∃ x c', b_l1Below c n = some (x, c') ∧ 0 ≤ x ∧ x < n ∧ curok c' := by
  obtain ⟨x, c', e, e1, e2, e3⟩ := byte_ok c h
  unfold b_l1Below
  rw [show decide (n ≤ 0) = false from decide_eq_false (by omega), show decide (n ≤ 256) = true from decide_eq_true h1]
  simp only [cnd_true, cnd_false]
  rw [bnd_eq e, gd_eq (by omega)]
  exact ⟨_, _, rfl, Int.tmod_nonneg _ e1, Int.tmod_lt_of_pos _ h0, e3⟩
theorem pick_ok (c : Tl1Cur) (l : List (List UInt8)) (h : curok c) (h0 : 0 < l.length) (h1 : l.length ≤ 256) : ∃ x c', b_l1Pick c l = some (x, c') ∧ curok c' ∧ x ∈ l := by
  obtain ⟨x, c', e, e1, e2, e3⟩ := below_ok c l.length h (by omega) (by omega)
  unfold b_l1Pick
  have hx : at? l x = some (l[x.toNat]'(by omega)) := by unfold at?; rw [if_pos e1]; exact List.getElem?_eq_getElem _
  rw [bnd_eq e, bnd_eq hx]
  exact ⟨_, _, rfl, e3, List.getElem_mem _⟩
theorem once_ok (c : Tl1Cur) (n : Int) (h : curok c) (h0 : 0 < n) (h1 : n ≤ 256) : ∃ x c', b_l1Once c n = some (x, c') ∧ curok c' := by
  obtain ⟨x, c', e, _, _, e3⟩ := below_ok c n h h0 h1
  unfold b_l1Once
  rw [bnd_eq e]
  exact ⟨_, _, rfl, e3⟩

/-! ### what is drawn, by hand -/
structure Dr (V : List (List UInt8)) (M : Nat) (t : TType) : Prop where
  vs : ∀ v ∈ tvs t, v ∈ V
  sz : tnd t ≤ M
  ok : tok t
theorem Dr.more {V V' : List (List UInt8)} {M M' : Nat} {t : TType} (h : Dr V M t) (hV : ∀ v ∈ V, v ∈ V') (hM : M ≤ M') : Dr V' M' t := ⟨fun v hv => hV v (h.vs v hv), Nat.le_trans h.sz hM, h.ok⟩
theorem Dr.con {V : List (List UInt8)} {k : Int} {n : List UInt8} {ts : List TType} {M : Nat} (hk : k ≠ 1) (hv : ∀ t ∈ ts, ∀ v ∈ tvs t, v ∈ V) (hs : tnds ts + 1 ≤ M) (hl : ts.length ≤ 4294967296) (ho : ∀ t ∈ ts, tok t) : Dr V M ⟨k, n, ts⟩ := by
  refine ⟨fun v h => ?_, by simp only [tnd]; omega, by simp only [tok]; exact ⟨hl, tall_iff.2 ho⟩⟩
  simp only [tvs, if_neg hk, List.nil_append] at h
  obtain ⟨t, h1, h2⟩ := tvss_mem.1 h
  exact hv t h1 v h2
theorem con_eq (s : List UInt8) (args : List TType) (h : args.length ≤ 4294967296) : b_l4Con s args = some ⟨2, s, args⟩ := by
  unfold b_l4Con
  rw [gd_eq (by simpa using h)]
  rfl
theorem conA_eq (s : List UInt8) (args : List TType) (h : args.length ≤ 4294967296) : b_l4ConA s args = some ⟨2, s, args⟩ := con_eq s args h
theorem proj_eq (s : List UInt8) (t : TType) (h : tok t) : b_l4Proj s t = some ⟨3, s, [t]⟩ := by
  unfold b_l4Proj
  rw [gd_eq h]
  rfl
theorem wrapD (d : Nat) (h : d ≤ 8) : IntKind.i64.wrap (((d + 1 : Nat) : Int) - 1) = (d : Int) := by
  rw [wrap_in _ (by omega) (by omega)]
  omega
theorem ty_step {rec : Tl1Cur → List (List UInt8) → Int → Option (TType × Tl1Cur)} (V vars : List (List UInt8)) (d : Nat) (hd : d ≤ 8) (h0 : 0 < vars.length) (h1 : vars.length ≤ 256) (hV : ∀ v ∈ vars, v ∈ V)
    (hrec : ∀ e, d = e + 1 → ∀ c, curok c → ∃ t c', rec c vars (e : Int) = some (t, c') ∧ curok c' ∧ Dr V (2 ^ (e + 1) - 1) t) (c : Tl1Cur) (hc : curok c) : ∃ t c', b_l4Ty rec c vars (d : Int) = some (t, c') ∧ curok c' ∧ Dr V (2 ^ (d + 1) - 1) t := by
  have hpow : 1 ≤ 2 ^ (d + 1) - 1 := by
    have : 1 ≤ 2 ^ d := Nat.one_le_two_pow
    rw [Nat.pow_succ]; omega
  obtain ⟨x, c1, e1, e2, e3, e4⟩ := below_ok c 8 hc (by omega) (by omega)
  unfold b_l4Ty
  rw [bnd_eq e1]
  simp only [lt_]
  have hvl : decide ((vars.length : Int) > 0) = true := decide_eq_true (by omega)
  rw [hvl]
  cases hx : decide (x < 3) with
  | true =>
    simp only [cnd_true]
    obtain ⟨y, c2, f1, f2, f3, f4⟩ := below_ok c1 vars.length e4 (by omega) (by omega)
    have hy : at? vars y = some (vars[y.toNat]'(by omega)) := by unfold at?; rw [if_pos f2]; exact List.getElem?_eq_getElem _
    rw [bnd_eq f1, bnd_eq hy]
    refine ⟨_, _, rfl, f4, fun v hv => ?_, by simp only [b_sVar, tnd, tnds]; omega, tok_nil _ _⟩
    simp only [b_sVar, tvs, if_true, tvss, List.append_nil, List.mem_singleton] at hv
    subst hv
    exact hV _ (List.getElem_mem _)
  | false =>
    simp only [cnd_false]
    have flat : ∀ l : List (List UInt8), 0 < l.length → l.length ≤ 256 → ∃ t c', (bnd (b_l1Pick c1 l) fun x11 => bnd (b_l4Con x11.1 []) fun x12 => some (x12, x11.2)) = some (t, c') ∧ curok c' ∧ Dr V (2 ^ (d + 1) - 1) t := by
      intro l hl0 hl1
      obtain ⟨s, c2, f1, f2, _⟩ := pick_ok c1 l e4 hl0 hl1
      rw [bnd_eq f1]
      simp only [con_eq s [] (by simp), bnd]
      exact ⟨_, _, rfl, f2, .con (by decide) (by simp) (by simp only [tnds]; omega) (by simp) (by simp)⟩
    cases hx2 : decide (x < 5) with
    | true =>
      simp only [cnd_true]
      exact flat _ (by simp) (by simp)
    | false =>
      simp only [cnd_false]
      cases d with
      | zero =>
        have : decide (((0 : Nat) : Int) ≤ 0) = true := by decide
        rw [this]
        simp only [cnd_true]
        exact flat _ (by simp) (by simp)
      | succ d =>
        have hd0 : decide (((d + 1 : Nat) : Int) ≤ 0) = false := decide_eq_false (by omega)
        rw [hd0, wrapD d (by omega)]
        simp only [cnd_false]
        have hp2 : 2 ^ (d + 1 + 1) = 2 ^ (d + 1) * 2 := Nat.pow_succ ..
        have hp1 : 1 ≤ 2 ^ (d + 1) := Nat.one_le_two_pow
        cases (x == 5) with
        | true =>
          simp only [cnd_true]
          obtain ⟨t1, c2, f1, f2, f3⟩ := hrec d rfl c1 e4
          obtain ⟨t2, c3, g1, g2, g3⟩ := hrec d rfl c2 f2
          rw [bnd_eq f1, bnd_eq g1]
          simp only [con_eq _ [t1, t2] (by simp), bnd]
          refine ⟨_, _, rfl, g2, .con (by decide) ?_ ?_ (by simp) ?_⟩
          · intro t ht
            simp only [List.mem_cons, List.not_mem_nil, or_false] at ht
            rcases ht with rfl | rfl
            · exact f3.vs
            · exact g3.vs
          · have := f3.sz
            have := g3.sz
            simp only [tnds]
            omega
          · intro t ht
            simp only [List.mem_cons, List.not_mem_nil, or_false] at ht
            rcases ht with rfl | rfl
            · exact f3.ok
            · exact g3.ok
        | false =>
          simp only [cnd_false]
          obtain ⟨s, c2, f1, f2, _⟩ := pick_ok c1 [[108, 105, 115, 116], [108, 105, 115, 116], [98, 111, 120]] e4 (by simp) (by simp)
          obtain ⟨t1, c3, g1, g2, g3⟩ := hrec d rfl c2 f2
          rw [bnd_eq f1, bnd_eq g1]
          simp only [con_eq s [t1] (by simp), bnd]
          refine ⟨_, _, rfl, g2, .con (by decide) (by simpa using g3.vs) ?_ (by simp) (by simpa using g3.ok)⟩
          have := g3.sz
          simp only [tnds]
          omega
theorem ty_ok (V vars : List (List UInt8)) (h0 : 0 < vars.length) (h1 : vars.length ≤ 256) (hV : ∀ v ∈ vars, v ∈ V) : ∀ (n d : Nat), d < n → d ≤ 8 → ∀ c, curok c → ∃ t c', m_l4Ty n c vars (d : Int) = some (t, c') ∧ curok c' ∧ Dr V (2 ^ (d + 1) - 1) t
  | 0, d, h, _ => by omega
  | n + 1, d, h, h8 => fun c hc => by
    rw [m_l4Ty.eq_2]
    exact ty_step V vars d h8 h0 h1 hV (fun e he c hc => ty_ok V vars h0 h1 hV n e (by omega) (by omega) c hc) c hc
theorem free_of {f : Option (TType × Tl1Cur)} {V : List (List UInt8)} {M : Nat} (h : ∃ t c', f = some (t, c') ∧ curok c' ∧ Dr V M t) : ∃ t c', (bnd f fun x1 => bnd (b_l1Below x1.2 8) fun x2 =>
    cnd (x2.1 == 0) (bnd (b_l1Pick x2.2 [[97, 100, 100], [115, 104, 111, 119]]) fun x4 => bnd (b_l4Proj x4.1 x1.1) fun x5 => some (x5, x4.2)) (cnd (x2.1 == 1) (bnd (b_l4Proj [97, 100, 100] x1.1) fun x7 => bnd (b_l4Con [108, 105, 115, 116] [x7]) fun x8 => some (x8, x2.2)) (cnd (x2.1 == 2) (some (TType.mk 4 [115, 104, 111, 119] [], x2.2)) (some (x1.1, x2.2))))) = some (t, c') ∧ curok c' ∧ Dr V (M + 2) t := by
  obtain ⟨t, c1, e1, e2, e3⟩ := h
  rw [bnd_eq e1]
  obtain ⟨x, c2, f1, _, _, f4⟩ := below_ok c1 8 e2 (by omega) (by omega)
  rw [bnd_eq f1]
  have hp : ∀ s, Dr V (M + 1) ⟨3, s, [t]⟩ := fun s => .con (by decide) (by simpa using e3.vs) (by have := e3.sz; simp only [tnds]; omega) (by simp) (by simpa using e3.ok)
  cases (x == 0) with
  | true =>
    simp only [cnd_true]
    obtain ⟨s, c3, g1, g2, _⟩ := pick_ok c2 [[97, 100, 100], [115, 104, 111, 119]] f4 (by simp) (by simp)
    rw [bnd_eq g1]
    simp only [proj_eq s t e3.ok, bnd]
    exact ⟨_, _, rfl, g2, (hp s).more (fun _ h => h) (by omega)⟩
  | false =>
    simp only [cnd_false]
    cases (x == 1) with
    | true =>
      simp only [cnd_true]
      simp only [proj_eq _ t e3.ok, bnd]
      simp only [con_eq _ [(⟨3, [97, 100, 100], [t]⟩ : TType)] (by simp)]
      exact ⟨_, _, rfl, f4, .con (by decide) (by simpa using (hp _).vs) (by have := (hp [97, 100, 100]).sz; simp only [tnds]; omega) (by simp) (by simpa using (hp _).ok)⟩
    | false =>
      simp only [cnd_false]
      cases (x == 2) with
      | true => exact ⟨_, _, rfl, f4, .con (by decide) (by simp) (by simp only [tnds]; omega) (by simp) (by simp)⟩
      | false => exact ⟨_, _, rfl, f4, e3.more (fun _ h => h) (by omega)⟩
theorem free_ok (c : Tl1Cur) (hc : curok c) (d : Nat) (hd : d ≤ 3) : ∃ t c', b_l4Free c (d : Int) = some (t, c') ∧ curok c' ∧ Dr [[97], [98]] 17 t := by
  obtain ⟨t, c', h1, h2, h3⟩ := free_of (ty_ok [[97], [98]] [[97], [98]] (by simp) (by simp) (fun v h => h) 8 d (by omega) (by omega) c hc)
  refine ⟨t, c', h1, h2, h3.more (fun _ h => h) ?_⟩
  have : 2 ^ (d + 1) ≤ 2 ^ 4 := Nat.pow_le_pow_right (by decide) (by omega)
  omega
theorem freeA_ok (c : Tl1Cur) (hc : curok c) : ∃ t c', b_l4FreeA c 3 = some (t, c') ∧ curok c' ∧ Dr [[97], [98]] 17 t := by
  obtain ⟨t, c', h1, h2, h3⟩ := free_of (ty_step (rec := m_l4Ty 8) [[97], [98]] [[97], [98]] 3 (by omega) (by simp) (by simp) (fun v h => h) (fun e he c hc => ty_ok _ _ (by simp) (by simp) (fun v h => h) 8 e (by omega) (by omega) c hc) c hc)
  exact ⟨t, c', h1, h2, h3⟩
theorem bent_l1 (x2 : Int × Tl1Cur) (V : List (List UInt8)) : ∀ (n : Nat) (k : Int) (s : List UInt8) (ts : List TType) (M : Nat), Dr V M ⟨k, s, ts⟩ → ∃ t, b_l4Bent_l1 x2 n k s ts = some (t, x2.2) ∧ Dr V (M + n) t
  | 0, k, s, ts, M, h => ⟨_, rfl, h⟩
  | n + 1, k, s, ts, M, h => by
    simp only [b_l4Bent_l1, conA_eq _ [(⟨k, s, ts⟩ : TType)] (by simp), bnd]
    obtain ⟨t, h1, h2⟩ := bent_l1 x2 V n 2 [108, 105, 115, 116] [⟨k, s, ts⟩] (M + 1) (.con (by decide) (by simpa using h.vs) (by have := h.sz; simp only [tnds]; omega) (by simp) (by simpa using h.ok))
    exact ⟨t, h1, h2.more (fun _ h => h) (by omega)⟩
theorem Dr.hd {V : List (List UInt8)} {M : Nat} {k : Int} {s : List UInt8} {ts : List TType} (h : Dr V M ⟨k, s, ts⟩) (k' : Int) (s' : List UInt8) : Dr (V ++ [s']) M ⟨k', s', ts⟩ := by
  refine ⟨fun v hv => ?_, by simpa only [tnd] using h.sz, by simpa only [tok] using h.ok⟩
  simp only [tvs, List.mem_append] at hv
  rcases hv with hv | hv
  · split at hv
    · simp only [List.mem_singleton] at hv; subst hv; simp
    · simp at hv
  · exact List.mem_append.2 (.inl (h.vs v (by simp [tvs, hv])))
theorem int_eq : b_l4Int = some ⟨2, [105, 110, 116], []⟩ := rfl
theorem bool_eq : b_l4Bool = some ⟨2, [98, 111, 111, 108], []⟩ := rfl
theorem bent_ok (c : Tl1Cur) (hc : curok c) : ∃ t c' w, b_l4Bent c = some (t, c') ∧ curok c' ∧ Dr ([[97], [98]] ++ [w]) 30 t := by
  obtain ⟨t, c1, e1, e2, e3⟩ := freeA_ok c hc
  obtain ⟨x, c2, f1, _, _, f4⟩ := below_ok c1 12 e2 (by omega) (by omega)
  obtain ⟨k, s, ts⟩ := t
  have hin : ∀ v ∈ ([[97], [98]] : List (List UInt8)), v ∈ [[97], [98]] ++ [s] := fun v h => List.mem_append.2 (.inl h)
  unfold b_l4Bent
  rw [bnd_eq e1, bnd_eq f1]
  cases (x == 0) with
  | true =>
    simp only [cnd_true]
    obtain ⟨y, c3, g1, _, _, g4⟩ := below_ok c2 7 f4 (by omega) (by omega)
    rw [bnd_eq g1]
    exact ⟨_, _, s, rfl, g4, (e3.hd _ s).more (fun _ h => h) (by omega)⟩
  | false =>
    simp only [cnd_false]
    cases (x == 1) with
    | true =>
      simp only [cnd_true]
      obtain ⟨y, c3, g1, g2, _⟩ := pick_ok c2 [[], [105, 110, 116], [65], [97, 115, 115, 111, 99], [97, 98, 99, 100, 101, 102, 103, 104, 105]] f4 (by simp) (by simp)
      rw [bnd_eq g1]
      exact ⟨_, _, y, rfl, g2, (e3.hd _ y).more (fun _ h => h) (by omega)⟩
    | false =>
      simp only [cnd_false]
      cases (x == 2) with
      | true =>
        simp only [cnd_true, int_eq, bool_eq, bnd]
        have ho := e3.ok
        have hs := e3.sz
        simp only [tok] at ho
        simp only [tnd] at hs
        have happ : ∀ (a b : List TType), tnds (a ++ b) = tnds a + tnds b := by
          intro a b
          induction a with
          | nil => simp [tnds]
          | cons x a ih => simp only [List.cons_append, tnds, ih]; omega
        have hlen : ∀ l : List TType, l.length ≤ tnds l := by
          intro l
          induction l with
          | nil => simp [tnds]
          | cons x l ih => have := tnd_pos x; simp only [List.length_cons, tnds]; omega
        have hl := hlen ts
        rw [gd_eq (by simp; omega)]
        refine ⟨_, _, s, rfl, f4, fun v hv => ?_, ?_, ?_⟩
        · refine hin v (e3.vs v ?_)
          simp only [tvs, List.mem_append] at hv ⊢
          refine hv.imp id (fun hv => ?_)
          obtain ⟨t, h1, h2⟩ := tvss_mem.1 hv
          simp only [List.mem_append, List.mem_cons, List.not_mem_nil, or_false] at h1
          rcases h1 with h1 | rfl | rfl | rfl
          · exact tvss_mem.2 ⟨t, h1, h2⟩
          · simp [tvs, tvss] at h2
          · simp [tvs, tvss] at h2
          · simp [tvs, tvss] at h2
        · simp only [tnd, happ, tnds]
          omega
        · simp only [tok]
          refine ⟨by simp; omega, tall_iff.2 fun t ht => ?_⟩
          simp only [List.mem_append, List.mem_cons, List.not_mem_nil, or_false] at ht
          rcases ht with ht | rfl | rfl | rfl
          · exact tall_iff.1 ho.2 t ht
          · exact tok_nil _ _
          · exact tok_nil _ _
          · exact tok_nil _ _
      | false =>
        simp only [cnd_false]
        cases (x == 3) with
        | true =>
          simp only [cnd_true]
          obtain ⟨t, h1, h2⟩ := bent_l1 (x, c2) [[97], [98]] 6 k s ts 17 e3
          exact ⟨t, c2, s, h1, f4, h2.more hin (by omega)⟩
        | false => exact ⟨_, _, s, rfl, f4, e3.more hin (by omega)⟩
theorem sLook_eq (v : List UInt8) (l : List TBinding) (h : bok l) : b_sLookup l v = some (lkp v l) := sLookup_l1_eq v l h
def Bs (V : List (List UInt8)) (l : List TBinding) : Prop := ∀ b ∈ l, Dr V 30 b.type_
theorem Bs.bok {V : List (List UInt8)} {l : List TBinding} (h : Bs V l) : bok l := fun b hb => (h b hb).ok
theorem binds_l1 (x1 : Int × Tl1Cur) (hx0 : 0 ≤ x1.1) (hx : x1.1 ≤ 3) : ∀ (n : Nat) (c : Tl1Cur) (y5 : List TBinding) (y7 : Int), curok c → 0 ≤ y7 → y7 ≤ x1.1 → (x1.1 - y7).toNat < n → Bs [[97], [98]] y5 → (y5.length : Int) ≤ y7 →
    ∃ l c' w, b_l6Binds_l1 x1 n c.b c.i c.h y5 y7 = some (l, c') ∧ curok c' ∧ Bs ([[97], [98]] ++ [w]) l
  | 0, c, y5, y7, hc, h0, h1, hn, hb, hl => by omega
  | n + 1, c, y5, y7, hc, h0, h1, hn, hb, hl => by
    have hmore : ∀ w, Bs ([[97], [98]] ++ [w]) y5 := fun w b hb' => (hb b hb').more (fun v h => List.mem_append.2 (.inl h)) (Nat.le_refl _)
    rw [b_l6Binds_l1.eq_2]
    cases hlt : decide (y7 < x1.1) with
    | true =>
      have hlt := of_decide_eq_true hlt
      simp only [cnd_true]
      obtain ⟨v, c1, e1, e2, _⟩ := pick_ok c [[97], [98], [99]] hc (by simp) (by simp)
      obtain ⟨t, c2, f1, f2, f3⟩ := free_ok c1 e2 2 (by omega)
      have hw : IntKind.i64.wrap (y7 + 1) = y7 + 1 := wrap_in _ (by omega) (by omega)
      have hcat : Bs [[97], [98]] (y5 ++ [⟨v, t⟩]) := fun b hb' => by
        rcases List.mem_append.1 hb' with h | h
        · exact hb b h
        · simp only [List.mem_singleton] at h
          subst h
          exact f3.more (fun _ h => h) (by omega)
      have f1' : b_l4Free c1 2 = some (t, c2) := f1
      rw [bnd_eq e1, bnd_eq f1', bnd_eq (sLook_eq v y5 hb.bok), hw]
      cases (lkp v y5).2 with
      | false =>
        simp only [Bool.not_false, cnd_true]
        rw [gd_eq (by simp; omega)]
        exact binds_l1 x1 hx0 hx n c2 _ _ f2 (by omega) (by omega) (by omega) hcat (by simp; omega)
      | true =>
        simp only [Bool.not_true, cnd_false]
        obtain ⟨o, c3, g1, g2⟩ := once_ok c2 4 f2 (by omega) (by omega)
        rw [bnd_eq g1]
        cases o with
        | true =>
          simp only [cnd_true]
          rw [gd_eq (by simp; omega)]
          exact binds_l1 x1 hx0 hx n c3 _ _ g2 (by omega) (by omega) (by omega) hcat (by simp; omega)
        | false =>
          simp only [cnd_false]
          exact binds_l1 x1 hx0 hx n c3 _ _ g2 (by omega) (by omega) (by omega) hb (by omega)
    | false =>
      simp only [cnd_false]
      have done : ∃ l c' w, (some (y5, Tl1Cur.mk c.b c.i c.h) : Option (List TBinding × Tl1Cur)) = some (l, c') ∧ curok c' ∧ Bs ([[97], [98]] ++ [w]) l := ⟨_, _, [], rfl, hc, hmore []⟩
      cases decide (x1.1 > 0) with
      | false => exact done
      | true =>
        simp only [cnd_true]
        cases hp : decide ((y5.length : Int) > 0) with
        | false => exact done
        | true =>
          have hp := of_decide_eq_true hp
          simp only [cnd_true]
          obtain ⟨o, c3, g1, g2⟩ := once_ok c 8 hc (by omega) (by omega)
          have g1' : b_l1Once (Tl1Cur.mk c.b c.i c.h) 8 = some (o, c3) := g1
          rw [bnd_eq g1']
          cases o with
          | false => exact ⟨_, _, [], rfl, g2, hmore []⟩
          | true =>
            simp only [cnd_true]
            obtain ⟨t, c4, w, q1, q2, q3⟩ := bent_ok c3 g2
            have h0 : at? y5 0 = some (y5[0]'(by omega)) := by unfold at?; rw [if_pos (by omega)]; exact List.getElem?_eq_getElem _
            rw [bnd_eq q1, bnd_eq h0]
            refine ⟨_, _, w, rfl, q2, fun b hb' => ?_⟩
            rcases List.mem_or_eq_of_mem_set hb' with h | rfl
            · exact hmore w b h
            · exact q3
theorem binds_ok (c : Tl1Cur) (hc : curok c) : ∃ l c' w, l6BindsT c = some (l, c') ∧ curok c' ∧ Bs ([[97], [98]] ++ [w]) l := by
  obtain ⟨x, c1, e1, e2, e3, e4⟩ := below_ok c 4 hc (by omega) (by omega)
  unfold l6BindsT b_l6Binds
  rw [bnd_eq e1]
  exact binds_l1 (x, c1) e2 (by omega) 8 c1 [] 0 e4 (by omega) (by omega) (by omega) (fun b hb => by simp at hb) (by simp)
theorem ap_dr {V : List (List UInt8)} {M : Nat} {l : List TBinding} {t : TType} (hl : ∀ b ∈ l, Dr V 30 b.type_) (ht : Dr V M t) : Dr V (30 * M) (apT l t) := by
  refine ⟨fun v hv => ?_, ?_, apT_tok (fun b hb => (hl b hb).ok) t ht.ok⟩
  · rcases tvs_ap t hv with ⟨h, _⟩ | ⟨b, h1, h2⟩
    · exact ht.vs v h
    · exact (hl b h1).vs v h2
  · exact Nat.le_trans (apT_tnd (M := 30) ⟨by decide, fun b hb => (hl b hb).sz⟩ t) (Nat.mul_le_mul_left _ ht.sz)
theorem Dr.good {V : List (List UInt8)} {M : Nat} {t : TType} (h : Dr V M t) (hM : M ≤ 4000) : Good V t := ⟨h.vs, Nat.le_trans h.sz hM, h.ok⟩
theorem two_ok (code : List UInt8) (hc : curok (l1NewT code)) : ∃ V a b, V.length ≤ 4 ∧ b_drawUnify code = some (a, b) ∧ Good V a ∧ Good V b := by
  obtain ⟨a, c1, e1, e2, e3⟩ := free_ok _ hc 3 (by omega)
  obtain ⟨b, c2, f1, f2, f3⟩ := free_ok c1 e2 3 (by omega)
  obtain ⟨x, c3, g1, _, _, g4⟩ := below_ok c2 4 f2 (by omega) (by omega)
  unfold b_drawUnify b_l8Two
  simp only [lt_]
  have e1' : b_l4Free (l1NewT code) 3 = some (a, c1) := e1
  have f1' : b_l4Free c1 3 = some (b, c2) := f1
  rw [bnd_eq e1', bnd_eq f1', bnd_eq g1]
  cases (x == 0) with
  | true =>
    simp only [cnd_true]
    obtain ⟨l, c4, w, h1, _, h3⟩ := binds_ok c3 g4
    rw [bnd_eq h1, gd_eq ⟨h3.bok, e3.ok⟩]
    have ha : Dr ([[97], [98]] ++ [w]) 17 a := e3.more (fun v h => List.mem_append.2 (.inl h)) (Nat.le_refl _)
    exact ⟨[[97], [98]] ++ [w], a, _, by simp, rfl, ha.good (by omega), (ap_dr h3 ha).good (by omega)⟩
  | false =>
    simp only [cnd_false]
    cases (x == 1) with
    | true =>
      simp only [cnd_true]
      have hV : ∀ v ∈ ([[97], [98], [99], [100]] : List (List UInt8)), v ∈ ([[97], [98], [99], [100]] : List (List UInt8)) := fun v h => h
      obtain ⟨t, c4, h1, h2, h3⟩ := ty_ok [[97], [98], [99], [100]] [[97], [98], [99], [100]] (by simp) (by simp) hV 8 3 (by omega) (by omega) c3 g4
      obtain ⟨t1, c5, i1, i2, i3⟩ := ty_ok [[97], [98], [99], [100]] [[98]] (by simp) (by simp) (by simp) 8 1 (by omega) (by omega) c4 h2
      obtain ⟨t2, c6, j1, _, j3⟩ := ty_ok [[97], [98], [99], [100]] [[100]] (by simp) (by simp) (by simp) 8 1 (by omega) (by omega) c5 i2
      have h1' : m_l4Ty 8 c3 [[97], [98], [99], [100]] 3 = some (t, c4) := h1
      have i1' : m_l4Ty 8 c4 [[98]] 1 = some (t1, c5) := i1
      have j1' : m_l4Ty 8 c5 [[100]] 1 = some (t2, c6) := j1
      have k1 : ∀ b ∈ [(⟨[97], t1⟩ : TBinding)], Dr [[97], [98], [99], [100]] 30 b.type_ := fun b hb => by simp at hb; subst hb; exact i3.more (fun _ h => h) (by decide)
      have k2 : ∀ b ∈ [(⟨[99], t2⟩ : TBinding)], Dr [[97], [98], [99], [100]] 30 b.type_ := fun b hb => by simp at hb; subst hb; exact j3.more (fun _ h => h) (by decide)
      rw [bnd_eq h1', bnd_eq i1', gd_eq ⟨fun b hb => (k1 b hb).ok, h3.ok⟩, bnd_eq j1', gd_eq ⟨fun b hb => (k2 b hb).ok, h3.ok⟩]
      exact ⟨[[97], [98], [99], [100]], _, _, by simp, rfl, (ap_dr k1 h3).good (by decide), (ap_dr k2 h3).good (by decide)⟩
    | false => exact ⟨[[97], [98]], a, b, by simp, rfl, e3.good (by omega), f3.good (by omega)⟩
/-! ### the law, by hand -/
theorem l6Copy_l1_eq : ∀ (xs y : List TBinding), (∀ b ∈ xs, tok b.type_) → y.length + xs.length ≤ 4000000 → b_l6Copy_l1 xs y = some (y ++ xs)
  | [], y, _, _ => by simp [b_l6Copy_l1]
  | x :: xs, y, h1, h2 => by
    simp only [List.length_cons] at h2
    simp only [b_l6Copy_l1, lt_, idT]
    rw [gd_eq (h1 x (by simp)), gd_eq (by simp; omega), l6Copy_l1_eq xs _ (fun b hb => h1 b (by simp [hb])) (by simp; omega)]
    simp
theorem eqB_l1 (a : List TBinding) : ∀ (xs : List TBinding) (k : Nat), a.drop k = xs → b_sEqB_l1 a xs k = some true
  | [], _, _ => rfl
  | x :: xs, k, h => by
    have hk : a[k]? = some x := by
      have := congrArg (fun l => l[0]?) h
      simpa using this
    have ht : teq x.type_ x.type_ = true := (teq_iff _ _).2 rfl
    rw [b_sEqB_l1.eq_2, at_nat, hk]
    simp only [bnd, beq_self_eq_true, Bool.not_true, cnd_false, ht]
    exact eqB_l1 a xs (k + 1) (by rw [← List.drop_drop, h]; rfl)
theorem eqB_self (a : List TBinding) : b_sEqB a a = some true := by
  unfold b_sEqB
  simp only [bne_self_eq_false, cnd_false]
  exact eqB_l1 a a 0 rfl
theorem occ_none {V : List (List UInt8)} {l : List TBinding} {x : TType} (hx : tnd x ≤ 4611686018427387904) (hv : ∀ v ∈ tvs x, v ∉ dom l) : ∀ (xs : List TBinding), (∀ b ∈ xs, b.var_ ∈ dom l) → b_FnUnify_l1 x xs = some true
  | [], _ => rfl
  | b :: xs, h => by
    rw [b_FnUnify_l1.eq_2, iOcc hx]
    have : decide (b.var_ ∈ tvs x) = false := decide_eq_false (fun hm => hv _ hm (h b (by simp)))
    rw [this]
    exact occ_none (V := V) hx hv xs (fun c hc => h c (by simp [hc]))
theorem Inv.empty (V : List (List UInt8)) : Inv V [] := ⟨by simp [dom], by simp [dom], by simp, by simp, fun b hb => by simp at hb⟩
theorem FnUnify_eq (code : List UInt8) (h : code.length ≤ 1048576 → curok (l1NewT code)) : b_FnUnify code = some true := by
  unfold b_FnUnify b_big
  cases hb : decide ((code.length : Int) > 1048576) with
  | true => rfl
  | false =>
    have hb := of_decide_eq_false hb
    simp only [cnd_false]
    obtain ⟨V, a, b, hV, e1, ha, hbg⟩ := two_ok code (h (by omega))
    rw [bnd_eq e1]
    have hout : ∀ t : TType, apT [] t = t := fun t => apT_out t (fun v _ hd => by simp [dom] at hd)
    obtain ⟨r, p, q1, q2, q3, q4⟩ := deep hV 50000 [] [a] [b] (.empty V) (by simpa using ha) (by simpa using hbg) rfl (by
      simp only [apTs, hout, tnds, List.length_nil]
      have := ha.sz
      omega)
    have q2' : m_sAll 100000 [a] [b] [] = some p := q2
    have hl1 : ((([a] : List TType).length : Int) != ([b] : List TType).length) = false := by simp
    have hI : b_iUnifyF a b = some ((resI r).2, (resI r).1) := by
      unfold b_iUnifyF b_iUnifyAll unifyNil
      rw [hl1, q1]
      rfl
    cases r with
    | none =>
      have hS : b_sUnifyF a b = some ([], false) := by
        unfold b_sUnifyF b_sUnifyAll
        rw [hl1, q2']
        have : p.2 = false := q3
        simp only [cnd_false, bnd, this, Bool.not_false, cnd_true]
      have hI' : b_iUnifyF a b = some ([], false) := hI
      rw [bnd_eq hI', bnd_eq hS]
      dsimp only
      simp only [beq_self_eq_true, Bool.not_true, cnd_false, eqB_self, bnd, Bool.not_false, cnd_true]
      rfl
    | some l =>
      have hp : p = (l, true) := q3
      obtain ⟨w1, w2, w3, w4⟩ := q4 l rfl
      have hll := w1.len hV
      have hS : b_sUnifyF a b = some (l, true) := by
        unfold b_sUnifyF b_sUnifyAll
        rw [hl1, q2', hp]
        simp only [cnd_false, bnd, Bool.not_true]
        unfold b_l6Copy
        rw [l6Copy_l1_eq l [] w1.ok (by simp; omega)]
        rfl
      have hab : apT l a = apT l b := by simpa [apTs] using w4
      have hxo := apT_tok w1.ok a ha.ok
      have ht : ∀ t : TType, teq t t = true := fun t => (teq_iff t t).2 rfl
      have hI' : b_iUnifyF a b = some (l, true) := hI
      rw [bnd_eq hI', bnd_eq hS]
      dsimp only
      simp only [beq_self_eq_true, Bool.not_true, cnd_false, eqB_self, bnd, lt_]
      rw [gd_eq ⟨w1.ok, ha.ok⟩, gd_eq ⟨w1.ok, hbg.ok⟩, ← hab]
      simp only [ht, Bool.not_true, cnd_false]
      rw [gd_eq ⟨w1.ok, hxo⟩, w1.idem]
      simp only [ht, Bool.not_true, cnd_false]
      have hbig := w1.big hV ha.sz
      exact occ_none (V := V) (l := l) (by omega) (fun v hv => (w1.vars ha v hv).2) l (fun c hc => List.mem_map_of_mem hc)

end Go.Proofs.Ytdofnoeiogjpjaa

namespace Go.Proofs.Ytdofnoeiogjpjaa
open Go Go.Eng Go.RowKit
theorem bridgeB {H : Type} {enc : TypeId × Value → H} {P : Program} {w : World} {sp : Nat → Bool} {held : Bool} {T e : TypeId} {v : Value} {d : DataW H} {ps : List MemPlace} (hund : P.underlying T = some (.slice e)) (he : P.underlying e = some (.int .u8)) (hce : P.cellsOf e = 1) (hbe : 0 < P.bytesOf e)
    (h : DataW.Trod enc P w 0 sp held T v d ps) (hw : ∀ x ∈ d.weights P T, x ≤ reachBytes) (hna : ∀ cs, v ≠ .agg cs) : ∃ code : List UInt8, SVr (fun b => b < w.heap.size) [] [] w (.d (.sl 1 (eBytes code))) v := by
  obtain ⟨fuel, h⟩ := h
  have hc : v.cells = #[v] := by cases v <;> first | rfl | (exact absurd rfl (hna _))
  rw [hc] at h
  suffices hs : ∃ code : List UInt8, Rd (fun b => b < w.heap.size) w (.sl 1 (eBytes code)) [v] by
    obtain ⟨code, h1⟩ := hs
    refine ⟨code, ?_⟩
    simp only [SVr]
    exact ⟨[v], by simp [val, U.isSt], h1⟩
  have hlenB : ∀ l : List UInt8, (eBytes l).length = l.length := fun l => Enc.len l
  cases fuel with
  | zero => simp [DataW.trod] at h
  | succ fuel =>
    rcases DataW.trod_slice hund h with ⟨h0, hx⟩ | ⟨a, len, cap, elems, rest, n, hn, h0, hx, _, hlc, _, hel, hget, _, _⟩
    · simp at h0
      subst h0
      exact ⟨[], by simp only [Rd, eBytes]; exact ⟨by simp [big_eq], none, 0, rfl, .inl trivial⟩⟩
    · obtain rfl : fuel = n := by omega
      simp at h0
      subst h0
      simp only [Prod.mk.injEq] at hx
      obtain ⟨rfl, rfl⟩ := hx
      simp only [DataW.weights, hund] at hw
      have hlen : len ≤ big := by
        have h1 := hw _ (List.mem_cons_self)
        simp only [List.length_map] at h1
        refine reach_big (Nat.le_trans ?_ h1)
        rw [hel]
        calc len ≤ len * P.bytesOf e := Nat.le_mul_of_pos_right _ hbe
          _ ≤ (len + rest.length) * P.bytesOf e := Nat.mul_le_mul_right _ (by omega)
      have each : ∀ i, i < len → ∃ x : UInt8, (a.spot = none → At w a.block (a.off + i * 1) [.int .u8 (x.toNat : Int)]) ∧ (i = 0 → a.spot = none) ∧ a.block < w.heap.size := by
        intro i hi
        have h1 := hget i hi
        rw [List.getElem?_eq_getElem (by omega)] at h1
        cases hc : w.cells? 0 (a.add (i * P.cellsOf e)) (P.cellsOf e) with
        | none => rw [hc] at h1; simp at h1
        | some cs =>
          rw [hc] at h1
          simp only [Option.bind_some] at h1
          rw [hce] at hc
          obtain ⟨k1, k2, k3⟩ := cells_At (by omega) hc
          obtain ⟨m, rfl, _, hwf⟩ := DataW.trod_int he h1
          simp [Lit.wf, IntKind.min, IntKind.max, IntKind.bits, IntKind.signed] at hwf
          have hblk : (a.add (i * 1)).block = a.block := by unfold Addr.add; split <;> rfl
          refine ⟨UInt8.ofNat m.toNat, fun hsp => ?_, fun h0 => ?_, ?_⟩
          · have hoff : (a.add (i * 1)).off = a.off + i * 1 := by unfold Addr.add; split <;> simp_all
            rw [hblk, hoff] at k3
            have e1 : ((UInt8.ofNat m.toNat).toNat : Int) = m := by
              rw [UInt8.toNat_ofNat']
              omega
            rw [e1]
            exact k3
          · subst h0
            rw [Nat.zero_mul] at k2
            exact k2
          · rw [← hblk]; exact k3.lt
      obtain ⟨us, hul, hus⟩ := exists_list len each
      refine ⟨us, ?_⟩
      simp only [Rd]
      refine ⟨by rw [hlenB, hul]; exact hlen, some a, cap, by rw [hlenB, hul], ?_⟩
      by_cases h0 : us = []
      · subst h0; exact .inl rfl
      · have hpos : 0 < len := by rw [← hul]; exact List.length_pos_iff.2 h0
        obtain ⟨u0, _, hsp, hblt⟩ := each 0 hpos
        have hsp := hsp rfl
        refine .inr ⟨a.block, a.off, ?_, hblt, RdE.mk (eBytes us) a.off (fun k u hk => ?_)⟩
        · obtain ⟨b, o, sp⟩ := a
          simp only at hsp
          subst hsp
          rfl
        · have hk2 : k < us.length := by rw [← hlenB]; exact (List.getElem?_eq_some_iff.1 hk).1
          have hk3 := gByte (List.getElem?_eq_getElem hk2)
          rw [hk] at hk3
          obtain rfl := Option.some.inj hk3
          obtain ⟨k1, _, _⟩ := hus k _ (List.getElem?_eq_getElem hk2)
          exact ⟨_, rfl, k1 hsp, by simp only [Rd]⟩
end Go.Proofs.Ytdofnoeiogjpjaa

