/- Ov1. Written by a program of mine (aw.py). -/
import Derived.Test.YtiaghdodeinecaaEng43
import Derived.Test.YtiaghdodeinecaaUn2
set_option linter.unusedVariables false
set_option linter.unusedSimpArgs false
set_option linter.unusedSectionVars false
namespace Go.Proofs.Ytiaghdodeinecaa
open Go Go.Eng
attribute [local irreducible] V VO VQ VY Quiet QR SpecP SpecO Rng PostP PostO PostG
def b_l11Int (a0 : Int) : TExpr :=
(TExpr.mk 1 [] [] a0 (TType.mk 0 [] []) [] [])
set_option maxHeartbeats 4000000 in
theorem w_l11Int (a0 : Int) : SpecP Try.prog 33 [.d (.i .i64 a0)] [eExpr (b_l11Int a0)] := by
  obtain ⟨r, h⟩ : ∃ r, b_l11Int a0 = r := ⟨_, rfl⟩
  rw [h]
  unfold b_l11Int at h
  refine SpecP_intro Try.func33 rfl (by kernel_rfl) rfl fun A _ => ?_
  refine goL ?_
  refine VO_k (Q_build TBd.h TZ.h rfl (by repeat constructor)) ?_
  refine goL ?_
  refine V_ret ?_
  subst h
  exact R_rP
def b_l11Var (a0 : List UInt8) : TExpr :=
(TExpr.mk 3 [] a0 0 (TType.mk 0 [] []) [] [])
set_option maxHeartbeats 4000000 in
theorem w_l11Var (a0 : List UInt8) : SpecP Try.prog 58 [.d (.s a0)] [eExpr (b_l11Var a0)] := by
  obtain ⟨r, h⟩ : ∃ r, b_l11Var a0 = r := ⟨_, rfl⟩
  rw [h]
  unfold b_l11Var at h
  refine SpecP_intro Try.func58 rfl (by kernel_rfl) rfl fun A _ => ?_
  refine goL ?_
  refine VO_k (Q_build TBd.h TZ.h rfl (by repeat constructor)) ?_
  refine goL ?_
  refine V_ret ?_
  subst h
  exact R_rP
def b_l11Op (a0 : Int) (a1 : List UInt8) (a2 : List TExpr) : Option (TExpr) :=
gd (([] : List TExpr).length + a2.length ≤ 4294967296) (
(some (TExpr.mk a0 [] a1 0 (TType.mk 0 [] []) ([] ++ a2) [])))
set_option maxHeartbeats 4000000 in
theorem w_l11Op (a0 : Int) (a1 : List UInt8) (a2 : List TExpr) {r : TExpr} (h : b_l11Op a0 a1 a2 = some r) : SpecP Try.prog 59 [.d (.i .i64 a0), .d (.s a1), .d (.sl 9 (eExprs a2))] [eExpr r] := by
  unfold b_l11Op at h
  refine SpecP_intro Try.func59 rfl (by kernel_rfl) rfl fun A _ => ?_
  refine goL ?_
  refine VO_l0a ?_
  refine goL ?_
  obtain ⟨g1, h⟩ := gd_s h
  refine VO_apa g1 ?_
  refine VO_k (Q_build TBd.h TZ.h rfl (by repeat constructor)) ?_
  refine goL ?_
  refine V_freeze 1 rfl rfl ?_
  refine V_ret ?_
  replace h := Option.some.inj h
  subst h
  exact R_rP
def b_l11Expr (rec_l11Expr : Tl1Cur → (List (List UInt8)) → Int → Option (TExpr × Tl1Cur)) (c : Tl1Cur) (vars : List (List UInt8)) (deep : Int) : Option (TExpr × Tl1Cur) :=
bnd (b_l1Below c 13) fun x1 =>
bnd ((cnd (decide (deep ≤ 0)) (
gd ((3 : Int) ≠ 0) (
(some (Int.tmod x1.1 3)))) (
(some x1.1)))) fun b2 =>
(cnd (b2 == 1) (
bnd (b_l1Below x1.2 2) fun x6 =>
(some ((TExpr.mk 2 [] [] x6.1 (TType.mk 0 [] []) [] []), x6.2))) (
bnd ((cnd (b2 == 2) (
(some (b2 == 2))) (
(some (b2 == 3))))) fun b7 =>
(cnd b7 (
(cnd (decide ((vars.length : Int) > 0)) (
bnd (b_l1Pick x1.2 vars) fun x11 =>
lt_ (b_l11Var x11.1) fun x12 =>
(some (x12, x11.2))) (
bnd (b_l1Below x1.2 20) fun x13 =>
lt_ (b_l11Int (IntKind.i64.wrap (x13.1 - 5))) fun x14 =>
(some (x14, x13.2))))) (
(cnd (b2 == 4) (
bnd (b_l1Pick x1.2 [[102], [103]]) fun x16 =>
bnd (rec_l11Expr x16.2 vars (IntKind.i64.wrap (deep - 1))) fun x17 =>
bnd (b_l11Op 4 x16.1 [x17.1]) fun x18 =>
(some (x18, x17.2))) (
(cnd (b2 == 5) (
bnd (b_l1Pick x1.2 [[115, 104, 111, 119], [97, 100, 100]]) fun x20 =>
bnd (rec_l11Expr x20.2 vars (IntKind.i64.wrap (deep - 1))) fun x21 =>
bnd (rec_l11Expr x21.2 vars (IntKind.i64.wrap (deep - 1))) fun x22 =>
(some ((TExpr.mk 5 x20.1 [109] 0 (TType.mk 0 [] []) [x21.1, x22.1] []), x22.2))) (
(cnd (b2 == 6) (
bnd (rec_l11Expr x1.2 vars (IntKind.i64.wrap (deep - 1))) fun x24 =>
bnd (rec_l11Expr x24.2 vars (IntKind.i64.wrap (deep - 1))) fun x25 =>
bnd (b_l11Op 6 [99, 111, 110, 115] [x24.1, x25.1]) fun x26 =>
(some (x26, x25.2))) (
(cnd (b2 == 7) (
gd (([] : List (List UInt8)).length + vars.length ≤ 4294967296) (
gd (([] ++ vars).length + [[104], [116]].length ≤ 4294967296) (
bnd (rec_l11Expr x1.2 vars (IntKind.i64.wrap (deep - 1))) fun x30 =>
bnd (rec_l11Expr x30.2 vars (IntKind.i64.wrap (deep - 1))) fun x31 =>
bnd (rec_l11Expr x31.2 (([] ++ vars) ++ [[104], [116]]) (IntKind.i64.wrap (deep - 1))) fun x32 =>
(some ((TExpr.mk 7 [] [] 0 (TType.mk 0 [] []) [x30.1] [(TArm.mk [110, 105, 108] [] x31.1), (TArm.mk [99, 111, 110, 115] [[104], [116]] x32.1)]), x32.2))))) (
(cnd (b2 == 8) (
bnd (rec_l11Expr x1.2 vars (IntKind.i64.wrap (deep - 1))) fun x34 =>
gd (([] : List (List UInt8)).length + vars.length ≤ 4294967296) (
gd (([] ++ vars).length + [[121]].length ≤ 4294967296) (
bnd (rec_l11Expr x34.2 (([] ++ vars) ++ [[121]]) (IntKind.i64.wrap (deep - 1))) fun x37 =>
bnd (b_l11Op 8 [121] [x34.1, x37.1]) fun x38 =>
(some (x38, x37.2))))) (
(cnd (b2 == 9) (
bnd (rec_l11Expr x1.2 vars (IntKind.i64.wrap (deep - 1))) fun x40 =>
bnd (rec_l11Expr x40.2 vars (IntKind.i64.wrap (deep - 1))) fun x41 =>
bnd (rec_l11Expr x41.2 vars (IntKind.i64.wrap (deep - 1))) fun x42 =>
bnd (b_l11Op 9 [] [x40.1, x41.1, x42.1]) fun x43 =>
(some (x43, x42.2))) (
(cnd (b2 == 10) (
bnd (b_l1Pick x1.2 [[43], [45], [42], [60], [61]]) fun x45 =>
bnd (rec_l11Expr x45.2 vars (IntKind.i64.wrap (deep - 1))) fun x46 =>
bnd (rec_l11Expr x46.2 vars (IntKind.i64.wrap (deep - 1))) fun x47 =>
bnd (b_l11Op 10 x45.1 [x46.1, x47.1]) fun x48 =>
(some (x48, x47.2))) (
(cnd (b2 == 11) (
bnd (rec_l11Expr x1.2 vars (IntKind.i64.wrap (deep - 1))) fun x50 =>
(some ((TExpr.mk 11 [115, 104, 111, 119] [] 0 (TType.mk 0 [] []) [x50.1] []), x50.2))) (
(cnd (b2 == 12) (
bnd (m_l4Ty 8 x1.2 [[97]] 1) fun x52 =>
bnd (rec_l11Expr x52.2 vars (IntKind.i64.wrap (deep - 1))) fun x53 =>
(some ((TExpr.mk 12 [] [] 0 x52.1 [x53.1] []), x53.2))) (
bnd (b_l1Below x1.2 20) fun x54 =>
lt_ (b_l11Int (IntKind.i64.wrap (x54.1 - 5))) fun x55 =>
(some (x55, x54.2))))))))))))))))))))))))
set_option maxHeartbeats 4000000 in
theorem w_l11Expr {rec_l11Expr : Tl1Cur → (List (List UInt8)) → Int → Option (TExpr × Tl1Cur)} (hrec_l11Expr : ∀ (x0 : Tl1Cur) (x1 : List (List UInt8)) (x2 : Int) {r : TExpr × Tl1Cur}, rec_l11Expr x0 x1 x2 = some r → Go.Eng.Spec Try.prog 39 [.ptr 0 0, .d (.sl 1 (eStrs x1)), .d (.i .i64 x2)] [.box [.d (.sl 1 (eBytes x0.b)), .d (.i .i64 x0.i), .d (.i .i64 x0.h)]] (fun sv Lo => sv = .d (eExpr r.1) ∧ Lo = [.box [.d (.sl 1 (eBytes r.2.b)), .d (.i .i64 r.2.i), .d (.i .i64 r.2.h)]])) (c : Tl1Cur) (vars : List (List UInt8)) (deep : Int) {r : TExpr × Tl1Cur} (h : b_l11Expr rec_l11Expr c vars deep = some r) : Go.Eng.Spec Try.prog 39 [.ptr 0 0, .d (.sl 1 (eStrs vars)), .d (.i .i64 deep)] [.box [.d (.sl 1 (eBytes c.b)), .d (.i .i64 c.i), .d (.i .i64 c.h)]] (fun sv Lo => sv = .d (eExpr r.1) ∧ Lo = [.box [.d (.sl 1 (eBytes r.2.b)), .d (.i .i64 r.2.i), .d (.i .i64 r.2.h)]]) := by
  obtain ⟨c_0, c_1, c_2⟩ := c
  unfold b_l11Expr at h
  refine Spec_intro 1 Try.func39 rfl (by kernel_rfl) rfl rfl fun A _ => ?_
  refine goL ?_
  obtain ⟨x1, hx1, h⟩ := bnd_s h
  obtain ⟨x1_0, ⟨x1_1_0, x1_1_1, x1_1_2⟩⟩ := x1
  refine VO_cG [0] (w_l1Below (Tl1Cur.mk c_0 c_1 c_2) 13 hx1) ?_
  rintro _ _ ⟨rfl, rfl⟩
  show VO _ _ _ _ ⟨(_, .d (.i .i64 x1_0)) :: _, [.box [.d (.sl 1 (eBytes x1_1_0)), .d (.i .i64 x1_1_1), .d (.i .i64 x1_1_2)], .box [.d (.i .i64 0), .d (.s []), .d (.s []), .d (.i .i64 0), .d (.i .i64 0), .d (.s []), .nilsl, .nilsl, .nilsl]], _⟩ _
  refine goL ?_
  obtain ⟨b2, hb2, h⟩ := bnd_s h
  refine V_thenJ ⟨[(0, .ptr 0 0), (1, .d (.sl 1 (eStrs vars))), (2, .d (.i .i64 deep)), (6, .ptr 1 0), (7, .d (.i .i64 b2))], [.box [.d (.sl 1 (eBytes x1_1_0)), .d (.i .i64 x1_1_1), .d (.i .i64 x1_1_2)], .box [.d (.i .i64 0), .d (.s []), .d (.s []), .d (.i .i64 0), .d (.i .i64 0), .d (.s []), .nilsl, .nilsl, .nilsl]], Try.f39.ntmps⟩ ?_ ?_
  · refine V_cb (fun c3 => ?_) (fun c3 => ?_)
    · replace hb2 := cnd_t c3 hb2
      refine goL ?_
      obtain ⟨g4, hb2⟩ := gd_s hb2
      refine VO_r (QR_rem g4) ?_
      refine goL ?_
      cases hb2
      exact ⟨rfl, ⟨⟨rfl, rfl⟩, ⟨rfl, rfl⟩, ⟨rfl, rfl⟩, ⟨rfl, rfl⟩, ⟨rfl, rfl⟩, trivial⟩, ⟨_, rfl⟩, rfl⟩
    · replace hb2 := cnd_f c3 hb2
      refine V_skip ?_
      cases hb2
      exact ⟨rfl, ⟨⟨rfl, rfl⟩, ⟨rfl, rfl⟩, ⟨rfl, rfl⟩, ⟨rfl, rfl⟩, ⟨rfl, rfl⟩, trivial⟩, ⟨_, rfl⟩, rfl⟩
  refine goL ?_
  refine V_block ?_
  refine goL ?_
  refine V_cb (fun c5 => ?_) (fun c5 => ?_)
  · replace h := cnd_t c5 h
    refine goL ?_
    obtain ⟨x6, hx6, h⟩ := bnd_s h
    obtain ⟨x6_0, ⟨x6_1_0, x6_1_1, x6_1_2⟩⟩ := x6
    refine VO_cG [0] (w_l1Below (Tl1Cur.mk x1_1_0 x1_1_1 x1_1_2) 2 hx6) ?_
    rintro _ _ ⟨rfl, rfl⟩
    show VO _ _ _ _ ⟨(_, .d (.i .i64 x6_0)) :: _, [.box [.d (.sl 1 (eBytes x6_1_0)), .d (.i .i64 x6_1_1), .d (.i .i64 x6_1_2)], .box [.d (.i .i64 0), .d (.s []), .d (.s []), .d (.i .i64 0), .d (.i .i64 0), .d (.s []), .nilsl, .nilsl, .nilsl]], _⟩ _
    refine VO_k (Q_build TBd.h TZ.h rfl (by repeat constructor)) ?_
    refine goL ?_
    refine V_ret ?_
    replace h := Option.some.inj h
    subst h
    exact R_rH [.d (.st [.i .i64 2, .s [], .s [], .i .i64 x6_0, .st [.i .i64 0, .s [], .sl 3 []], .sl 9 [], .sl 11 []])] [.box [.d (.sl 1 (eBytes x6_1_0)), .d (.i .i64 x6_1_1), .d (.i .i64 x6_1_2)]] ⟨rfl, rfl⟩
  · replace h := cnd_f c5 h
    refine goL ?_
    obtain ⟨b7, hb7, h⟩ := bnd_s h
    refine V_thenJ ⟨[(0, .ptr 0 0), (1, .d (.sl 1 (eStrs vars))), (2, .d (.i .i64 deep)), (6, .ptr 1 0), (15, .d (.i .i64 b2)), (21, .d (.b b7))], [.box [.d (.sl 1 (eBytes x1_1_0)), .d (.i .i64 x1_1_1), .d (.i .i64 x1_1_2)], .box [.d (.i .i64 0), .d (.s []), .d (.s []), .d (.i .i64 0), .d (.i .i64 0), .d (.s []), .nilsl, .nilsl, .nilsl]], Try.f39.ntmps⟩ ?_ ?_
    · refine V_cb (fun c8 => ?_) (fun c8 => ?_)
      · replace hb7 := cnd_t c8 hb7
        refine V_skip ?_
        cases hb7
        exact ⟨rfl, ⟨⟨rfl, rfl⟩, ⟨rfl, rfl⟩, ⟨rfl, rfl⟩, ⟨rfl, rfl⟩, ⟨rfl, rfl⟩, ⟨rfl, rfl⟩, trivial⟩, ⟨_, rfl⟩, rfl⟩
      · replace hb7 := cnd_f c8 hb7
        refine goL ?_
        cases hb7
        exact ⟨rfl, ⟨⟨rfl, rfl⟩, ⟨rfl, rfl⟩, ⟨rfl, rfl⟩, ⟨rfl, rfl⟩, ⟨rfl, rfl⟩, ⟨rfl, rfl⟩, trivial⟩, ⟨_, rfl⟩, rfl⟩
    refine goL ?_
    refine V_cb (fun c9 => ?_) (fun c9 => ?_)
    · replace h := cnd_t c9 h
      refine goL ?_
      refine V_cb (fun c10 => ?_) (fun c10 => ?_)
      · replace h := cnd_t c10 h
        refine goL ?_
        obtain ⟨x11, hx11, h⟩ := bnd_s h
        obtain ⟨x11_0, ⟨x11_1_0, x11_1_1, x11_1_2⟩⟩ := x11
        refine VO_cG [0] (w_l1Pick (Tl1Cur.mk x1_1_0 x1_1_1 x1_1_2) vars hx11) ?_
        rintro _ _ ⟨rfl, rfl⟩
        show VO _ _ _ _ ⟨(_, .d (.s x11_0)) :: _, [.box [.d (.sl 1 (eBytes x11_1_0)), .d (.i .i64 x11_1_1), .d (.i .i64 x11_1_2)], .box [.d (.i .i64 0), .d (.s []), .d (.s []), .d (.i .i64 0), .d (.i .i64 0), .d (.s []), .nilsl, .nilsl, .nilsl]], _⟩ _
        obtain ⟨x12, hx12, h⟩ := lt_x h
        obtain ⟨x12_0, x12_1, x12_2, x12_3, ⟨x12_4_0, x12_4_1, x12_4_2⟩, x12_5, x12_6⟩ := x12
        have sx12 := w_l11Var x11_0
        rw [hx12] at sx12
        refine VO_r (QR_call (sx12)) ?_
        refine goL ?_
        refine V_ret ?_
        replace h := Option.some.inj h
        subst h
        exact R_rH [.d (.st [.i .i64 x12_0, .s x12_1, .s x12_2, .i .i64 x12_3, .st [.i .i64 x12_4_0, .s x12_4_1, .sl 3 (eTypes x12_4_2)], .sl 9 (eExprs x12_5), .sl 11 (eArms x12_6)])] [.box [.d (.sl 1 (eBytes x11_1_0)), .d (.i .i64 x11_1_1), .d (.i .i64 x11_1_2)]] ⟨rfl, rfl⟩
      · replace h := cnd_f c10 h
        refine V_skip ?_
        show V _ _ _ _ _
        refine goL ?_
        obtain ⟨x13, hx13, h⟩ := bnd_s h
        obtain ⟨x13_0, ⟨x13_1_0, x13_1_1, x13_1_2⟩⟩ := x13
        refine VO_cG [0] (w_l1Below (Tl1Cur.mk x1_1_0 x1_1_1 x1_1_2) 20 hx13) ?_
        rintro _ _ ⟨rfl, rfl⟩
        show VO _ _ _ _ ⟨(_, .d (.i .i64 x13_0)) :: _, [.box [.d (.sl 1 (eBytes x13_1_0)), .d (.i .i64 x13_1_1), .d (.i .i64 x13_1_2)], .box [.d (.i .i64 0), .d (.s []), .d (.s []), .d (.i .i64 0), .d (.i .i64 0), .d (.s []), .nilsl, .nilsl, .nilsl]], _⟩ _
        refine VO_r (QR_ar) ?_
        obtain ⟨x14, hx14, h⟩ := lt_x h
        obtain ⟨x14_0, x14_1, x14_2, x14_3, ⟨x14_4_0, x14_4_1, x14_4_2⟩, x14_5, x14_6⟩ := x14
        have sx14 := w_l11Int (IntKind.i64.wrap (x13_0 - 5))
        rw [hx14] at sx14
        refine VO_r (QR_call (sx14)) ?_
        refine goL ?_
        refine V_ret ?_
        replace h := Option.some.inj h
        subst h
        exact R_rH [.d (.st [.i .i64 x14_0, .s x14_1, .s x14_2, .i .i64 x14_3, .st [.i .i64 x14_4_0, .s x14_4_1, .sl 3 (eTypes x14_4_2)], .sl 9 (eExprs x14_5), .sl 11 (eArms x14_6)])] [.box [.d (.sl 1 (eBytes x13_1_0)), .d (.i .i64 x13_1_1), .d (.i .i64 x13_1_2)]] ⟨rfl, rfl⟩
    · replace h := cnd_f c9 h
      refine goL ?_
      refine V_cb (fun c15 => ?_) (fun c15 => ?_)
      · replace h := cnd_t c15 h
        refine goL ?_
        refine VO_lb (us := eStrs [[102], [103]]) ?_
        refine VO_freeze 2 rfl rfl ?_
        obtain ⟨x16, hx16, h⟩ := bnd_s h
        obtain ⟨x16_0, ⟨x16_1_0, x16_1_1, x16_1_2⟩⟩ := x16
        refine VO_cG [0] (w_l1Pick (Tl1Cur.mk x1_1_0 x1_1_1 x1_1_2) [[102], [103]] hx16) ?_
        rintro _ _ ⟨rfl, rfl⟩
        show VO _ _ _ _ ⟨(_, .d (.s x16_0)) :: _, [.box [.d (.sl 1 (eBytes x16_1_0)), .d (.i .i64 x16_1_1), .d (.i .i64 x16_1_2)], .box [.d (.i .i64 0), .d (.s []), .d (.s []), .d (.i .i64 0), .d (.i .i64 0), .d (.s []), .nilsl, .nilsl, .nilsl], .frz 9 1 0 (eStrs [[102], [103]])], _⟩ _
        refine goL ?_
        refine VO_r (QR_ar) ?_
        obtain ⟨x17, hx17, h⟩ := bnd_s h
        obtain ⟨⟨x17_0_0, x17_0_1, x17_0_2, x17_0_3, ⟨x17_0_4_0, x17_0_4_1, x17_0_4_2⟩, x17_0_5, x17_0_6⟩, ⟨x17_1_0, x17_1_1, x17_1_2⟩⟩ := x17
        refine VO_cG [0] (hrec_l11Expr (Tl1Cur.mk x16_1_0 x16_1_1 x16_1_2) vars (IntKind.i64.wrap (deep - 1)) hx17) ?_
        rintro _ _ ⟨rfl, rfl⟩
        show VO _ _ _ _ ⟨(_, .d (.st [.i .i64 x17_0_0, .s x17_0_1, .s x17_0_2, .i .i64 x17_0_3, .st [.i .i64 x17_0_4_0, .s x17_0_4_1, .sl 3 (eTypes x17_0_4_2)], .sl 9 (eExprs x17_0_5), .sl 11 (eArms x17_0_6)])) :: _, [.box [.d (.sl 1 (eBytes x17_1_0)), .d (.i .i64 x17_1_1), .d (.i .i64 x17_1_2)], .box [.d (.i .i64 0), .d (.s []), .d (.s []), .d (.i .i64 0), .d (.i .i64 0), .d (.s []), .nilsl, .nilsl, .nilsl], .frz 9 1 0 (eStrs [[102], [103]])], _⟩ _
        refine VO_la1 (u := (.st [.i .i64 x17_0_0, .s x17_0_1, .s x17_0_2, .i .i64 x17_0_3, .st [.i .i64 x17_0_4_0, .s x17_0_4_1, .sl 3 (eTypes x17_0_4_2)], .sl 9 (eExprs x17_0_5), .sl 11 (eArms x17_0_6)])) ?_
        refine VO_freeze 3 rfl rfl ?_
        obtain ⟨x18, hx18, h⟩ := bnd_s h
        obtain ⟨x18_0, x18_1, x18_2, x18_3, ⟨x18_4_0, x18_4_1, x18_4_2⟩, x18_5, x18_6⟩ := x18
        refine VO_k (Q_cl (w_l11Op 4 x16_0 [(TExpr.mk x17_0_0 x17_0_1 x17_0_2 x17_0_3 (TType.mk x17_0_4_0 x17_0_4_1 x17_0_4_2) x17_0_5 x17_0_6)] hx18)) ?_
        refine goL ?_
        refine V_ret ?_
        replace h := Option.some.inj h
        subst h
        exact R_rH [.d (.st [.i .i64 x18_0, .s x18_1, .s x18_2, .i .i64 x18_3, .st [.i .i64 x18_4_0, .s x18_4_1, .sl 3 (eTypes x18_4_2)], .sl 9 (eExprs x18_5), .sl 11 (eArms x18_6)])] [.box [.d (.sl 1 (eBytes x17_1_0)), .d (.i .i64 x17_1_1), .d (.i .i64 x17_1_2)]] ⟨rfl, rfl⟩
      · replace h := cnd_f c15 h
        refine goL ?_
        refine V_cb (fun c19 => ?_) (fun c19 => ?_)
        · replace h := cnd_t c19 h
          refine goL ?_
          refine VO_lb (us := eStrs [[115, 104, 111, 119], [97, 100, 100]]) ?_
          refine VO_freeze 2 rfl rfl ?_
          obtain ⟨x20, hx20, h⟩ := bnd_s h
          obtain ⟨x20_0, ⟨x20_1_0, x20_1_1, x20_1_2⟩⟩ := x20
          refine VO_cG [0] (w_l1Pick (Tl1Cur.mk x1_1_0 x1_1_1 x1_1_2) [[115, 104, 111, 119], [97, 100, 100]] hx20) ?_
          rintro _ _ ⟨rfl, rfl⟩
          show VO _ _ _ _ ⟨(_, .d (.s x20_0)) :: _, [.box [.d (.sl 1 (eBytes x20_1_0)), .d (.i .i64 x20_1_1), .d (.i .i64 x20_1_2)], .box [.d (.i .i64 0), .d (.s []), .d (.s []), .d (.i .i64 0), .d (.i .i64 0), .d (.s []), .nilsl, .nilsl, .nilsl], .frz 9 1 0 (eStrs [[115, 104, 111, 119], [97, 100, 100]])], _⟩ _
          refine goL ?_
          refine VO_r (QR_ar) ?_
          obtain ⟨x21, hx21, h⟩ := bnd_s h
          obtain ⟨⟨x21_0_0, x21_0_1, x21_0_2, x21_0_3, ⟨x21_0_4_0, x21_0_4_1, x21_0_4_2⟩, x21_0_5, x21_0_6⟩, ⟨x21_1_0, x21_1_1, x21_1_2⟩⟩ := x21
          refine VO_cG [0] (hrec_l11Expr (Tl1Cur.mk x20_1_0 x20_1_1 x20_1_2) vars (IntKind.i64.wrap (deep - 1)) hx21) ?_
          rintro _ _ ⟨rfl, rfl⟩
          show VO _ _ _ _ ⟨(_, .d (.st [.i .i64 x21_0_0, .s x21_0_1, .s x21_0_2, .i .i64 x21_0_3, .st [.i .i64 x21_0_4_0, .s x21_0_4_1, .sl 3 (eTypes x21_0_4_2)], .sl 9 (eExprs x21_0_5), .sl 11 (eArms x21_0_6)])) :: _, [.box [.d (.sl 1 (eBytes x21_1_0)), .d (.i .i64 x21_1_1), .d (.i .i64 x21_1_2)], .box [.d (.i .i64 0), .d (.s []), .d (.s []), .d (.i .i64 0), .d (.i .i64 0), .d (.s []), .nilsl, .nilsl, .nilsl], .frz 9 1 0 (eStrs [[115, 104, 111, 119], [97, 100, 100]])], _⟩ _
          refine goL ?_
          refine VO_r (QR_ar) ?_
          obtain ⟨x22, hx22, h⟩ := bnd_s h
          obtain ⟨⟨x22_0_0, x22_0_1, x22_0_2, x22_0_3, ⟨x22_0_4_0, x22_0_4_1, x22_0_4_2⟩, x22_0_5, x22_0_6⟩, ⟨x22_1_0, x22_1_1, x22_1_2⟩⟩ := x22
          refine VO_cG [0] (hrec_l11Expr (Tl1Cur.mk x21_1_0 x21_1_1 x21_1_2) vars (IntKind.i64.wrap (deep - 1)) hx22) ?_
          rintro _ _ ⟨rfl, rfl⟩
          show VO _ _ _ _ ⟨(_, .d (.st [.i .i64 x22_0_0, .s x22_0_1, .s x22_0_2, .i .i64 x22_0_3, .st [.i .i64 x22_0_4_0, .s x22_0_4_1, .sl 3 (eTypes x22_0_4_2)], .sl 9 (eExprs x22_0_5), .sl 11 (eArms x22_0_6)])) :: _, [.box [.d (.sl 1 (eBytes x22_1_0)), .d (.i .i64 x22_1_1), .d (.i .i64 x22_1_2)], .box [.d (.i .i64 0), .d (.s []), .d (.s []), .d (.i .i64 0), .d (.i .i64 0), .d (.s []), .nilsl, .nilsl, .nilsl], .frz 9 1 0 (eStrs [[115, 104, 111, 119], [97, 100, 100]])], _⟩ _
          refine VO_lb (us := eExprs [(TExpr.mk x21_0_0 x21_0_1 x21_0_2 x21_0_3 (TType.mk x21_0_4_0 x21_0_4_1 x21_0_4_2) x21_0_5 x21_0_6), (TExpr.mk x22_0_0 x22_0_1 x22_0_2 x22_0_3 (TType.mk x22_0_4_0 x22_0_4_1 x22_0_4_2) x22_0_5 x22_0_6)]) ?_
          refine VO_k (Q_build TBd.h TZ.h rfl (by repeat constructor)) ?_
          refine goL ?_
          refine V_freeze 3 rfl rfl ?_
          refine V_ret ?_
          replace h := Option.some.inj h
          subst h
          exact R_rF [.d (.st [.i .i64 5, .s x20_0, .s [109], .i .i64 0, .st [.i .i64 0, .s [], .sl 3 []], .sl 9 (eExprs [(TExpr.mk x21_0_0 x21_0_1 x21_0_2 x21_0_3 (TType.mk x21_0_4_0 x21_0_4_1 x21_0_4_2) x21_0_5 x21_0_6), (TExpr.mk x22_0_0 x22_0_1 x22_0_2 x22_0_3 (TType.mk x22_0_4_0 x22_0_4_1 x22_0_4_2) x22_0_5 x22_0_6)]), .sl 11 []])] [.box [.d (.sl 1 (eBytes x22_1_0)), .d (.i .i64 x22_1_1), .d (.i .i64 x22_1_2)]] ⟨rfl, rfl⟩
        · replace h := cnd_f c19 h
          refine goL ?_
          refine V_cb (fun c23 => ?_) (fun c23 => ?_)
          · replace h := cnd_t c23 h
            refine goL ?_
            refine VO_r (QR_ar) ?_
            obtain ⟨x24, hx24, h⟩ := bnd_s h
            obtain ⟨⟨x24_0_0, x24_0_1, x24_0_2, x24_0_3, ⟨x24_0_4_0, x24_0_4_1, x24_0_4_2⟩, x24_0_5, x24_0_6⟩, ⟨x24_1_0, x24_1_1, x24_1_2⟩⟩ := x24
            refine VO_cG [0] (hrec_l11Expr (Tl1Cur.mk x1_1_0 x1_1_1 x1_1_2) vars (IntKind.i64.wrap (deep - 1)) hx24) ?_
            rintro _ _ ⟨rfl, rfl⟩
            show VO _ _ _ _ ⟨(_, .d (.st [.i .i64 x24_0_0, .s x24_0_1, .s x24_0_2, .i .i64 x24_0_3, .st [.i .i64 x24_0_4_0, .s x24_0_4_1, .sl 3 (eTypes x24_0_4_2)], .sl 9 (eExprs x24_0_5), .sl 11 (eArms x24_0_6)])) :: _, [.box [.d (.sl 1 (eBytes x24_1_0)), .d (.i .i64 x24_1_1), .d (.i .i64 x24_1_2)], .box [.d (.i .i64 0), .d (.s []), .d (.s []), .d (.i .i64 0), .d (.i .i64 0), .d (.s []), .nilsl, .nilsl, .nilsl]], _⟩ _
            refine goL ?_
            refine VO_r (QR_ar) ?_
            obtain ⟨x25, hx25, h⟩ := bnd_s h
            obtain ⟨⟨x25_0_0, x25_0_1, x25_0_2, x25_0_3, ⟨x25_0_4_0, x25_0_4_1, x25_0_4_2⟩, x25_0_5, x25_0_6⟩, ⟨x25_1_0, x25_1_1, x25_1_2⟩⟩ := x25
            refine VO_cG [0] (hrec_l11Expr (Tl1Cur.mk x24_1_0 x24_1_1 x24_1_2) vars (IntKind.i64.wrap (deep - 1)) hx25) ?_
            rintro _ _ ⟨rfl, rfl⟩
            show VO _ _ _ _ ⟨(_, .d (.st [.i .i64 x25_0_0, .s x25_0_1, .s x25_0_2, .i .i64 x25_0_3, .st [.i .i64 x25_0_4_0, .s x25_0_4_1, .sl 3 (eTypes x25_0_4_2)], .sl 9 (eExprs x25_0_5), .sl 11 (eArms x25_0_6)])) :: _, [.box [.d (.sl 1 (eBytes x25_1_0)), .d (.i .i64 x25_1_1), .d (.i .i64 x25_1_2)], .box [.d (.i .i64 0), .d (.s []), .d (.s []), .d (.i .i64 0), .d (.i .i64 0), .d (.s []), .nilsl, .nilsl, .nilsl]], _⟩ _
            refine VO_lb (us := eExprs [(TExpr.mk x24_0_0 x24_0_1 x24_0_2 x24_0_3 (TType.mk x24_0_4_0 x24_0_4_1 x24_0_4_2) x24_0_5 x24_0_6), (TExpr.mk x25_0_0 x25_0_1 x25_0_2 x25_0_3 (TType.mk x25_0_4_0 x25_0_4_1 x25_0_4_2) x25_0_5 x25_0_6)]) ?_
            refine VO_freeze 2 rfl rfl ?_
            obtain ⟨x26, hx26, h⟩ := bnd_s h
            obtain ⟨x26_0, x26_1, x26_2, x26_3, ⟨x26_4_0, x26_4_1, x26_4_2⟩, x26_5, x26_6⟩ := x26
            refine VO_k (Q_cl (w_l11Op 6 [99, 111, 110, 115] [(TExpr.mk x24_0_0 x24_0_1 x24_0_2 x24_0_3 (TType.mk x24_0_4_0 x24_0_4_1 x24_0_4_2) x24_0_5 x24_0_6), (TExpr.mk x25_0_0 x25_0_1 x25_0_2 x25_0_3 (TType.mk x25_0_4_0 x25_0_4_1 x25_0_4_2) x25_0_5 x25_0_6)] hx26)) ?_
            refine goL ?_
            refine V_ret ?_
            replace h := Option.some.inj h
            subst h
            exact R_rH [.d (.st [.i .i64 x26_0, .s x26_1, .s x26_2, .i .i64 x26_3, .st [.i .i64 x26_4_0, .s x26_4_1, .sl 3 (eTypes x26_4_2)], .sl 9 (eExprs x26_5), .sl 11 (eArms x26_6)])] [.box [.d (.sl 1 (eBytes x25_1_0)), .d (.i .i64 x25_1_1), .d (.i .i64 x25_1_2)]] ⟨rfl, rfl⟩
          · replace h := cnd_f c23 h
            refine goL ?_
            refine V_cb (fun c27 => ?_) (fun c27 => ?_)
            · replace h := cnd_t c27 h
              refine goL ?_
              refine VO_l0 ?_
              refine goL ?_
              obtain ⟨g28, h⟩ := gd_s h
              refine VO_ap g28 ?_
              refine VO_lb (us := eStrs [[104], [116]]) ?_
              obtain ⟨g29, h⟩ := gd_s h
              refine VO_ao 3 ?_
              refine VO_ap g29 ?_
              refine goL ?_
              refine VO_r (QR_ar) ?_
              obtain ⟨x30, hx30, h⟩ := bnd_s h
              obtain ⟨⟨x30_0_0, x30_0_1, x30_0_2, x30_0_3, ⟨x30_0_4_0, x30_0_4_1, x30_0_4_2⟩, x30_0_5, x30_0_6⟩, ⟨x30_1_0, x30_1_1, x30_1_2⟩⟩ := x30
              refine VO_cG [0] (hrec_l11Expr (Tl1Cur.mk x1_1_0 x1_1_1 x1_1_2) vars (IntKind.i64.wrap (deep - 1)) hx30) ?_
              rintro _ _ ⟨rfl, rfl⟩
              show VO _ _ _ _ ⟨(_, .d (.st [.i .i64 x30_0_0, .s x30_0_1, .s x30_0_2, .i .i64 x30_0_3, .st [.i .i64 x30_0_4_0, .s x30_0_4_1, .sl 3 (eTypes x30_0_4_2)], .sl 9 (eExprs x30_0_5), .sl 11 (eArms x30_0_6)])) :: _, [.box [.d (.sl 1 (eBytes x30_1_0)), .d (.i .i64 x30_1_1), .d (.i .i64 x30_1_2)], .box [.d (.i .i64 0), .d (.s []), .d (.s []), .d (.i .i64 0), .d (.i .i64 0), .d (.s []), .nilsl, .nilsl, .nilsl], .own 9 1 ((0 + 1) + 1) (eStrs (([] ++ vars) ++ [[104], [116]])), .dead 1], _⟩ _
              refine VO_la1 (u := (.st [.i .i64 x30_0_0, .s x30_0_1, .s x30_0_2, .i .i64 x30_0_3, .st [.i .i64 x30_0_4_0, .s x30_0_4_1, .sl 3 (eTypes x30_0_4_2)], .sl 9 (eExprs x30_0_5), .sl 11 (eArms x30_0_6)])) ?_
              refine goL ?_
              refine VO_r (QR_ar) ?_
              obtain ⟨x31, hx31, h⟩ := bnd_s h
              obtain ⟨⟨x31_0_0, x31_0_1, x31_0_2, x31_0_3, ⟨x31_0_4_0, x31_0_4_1, x31_0_4_2⟩, x31_0_5, x31_0_6⟩, ⟨x31_1_0, x31_1_1, x31_1_2⟩⟩ := x31
              refine VO_cG [0] (hrec_l11Expr (Tl1Cur.mk x30_1_0 x30_1_1 x30_1_2) vars (IntKind.i64.wrap (deep - 1)) hx31) ?_
              rintro _ _ ⟨rfl, rfl⟩
              show VO _ _ _ _ ⟨(_, .d (.st [.i .i64 x31_0_0, .s x31_0_1, .s x31_0_2, .i .i64 x31_0_3, .st [.i .i64 x31_0_4_0, .s x31_0_4_1, .sl 3 (eTypes x31_0_4_2)], .sl 9 (eExprs x31_0_5), .sl 11 (eArms x31_0_6)])) :: _, [.box [.d (.sl 1 (eBytes x31_1_0)), .d (.i .i64 x31_1_1), .d (.i .i64 x31_1_2)], .box [.d (.i .i64 0), .d (.s []), .d (.s []), .d (.i .i64 0), .d (.i .i64 0), .d (.s []), .nilsl, .nilsl, .nilsl], .own 9 1 ((0 + 1) + 1) (eStrs (([] ++ vars) ++ [[104], [116]])), .dead 1, .arr 61 9 0 (eExprs [(TExpr.mk x30_0_0 x30_0_1 x30_0_2 x30_0_3 (TType.mk x30_0_4_0 x30_0_4_1 x30_0_4_2) x30_0_5 x30_0_6)])], _⟩ _
              refine VO_k (Q_build TBd.h TZ.h rfl (by repeat constructor)) ?_
              refine VO_lb (us := eStrs [[104], [116]]) ?_
              refine goL ?_
              refine VO_r (QR_ar) ?_
              refine VO_freezeO 2 rfl rfl ?_
              obtain ⟨x32, hx32, h⟩ := bnd_s h
              obtain ⟨⟨x32_0_0, x32_0_1, x32_0_2, x32_0_3, ⟨x32_0_4_0, x32_0_4_1, x32_0_4_2⟩, x32_0_5, x32_0_6⟩, ⟨x32_1_0, x32_1_1, x32_1_2⟩⟩ := x32
              refine VO_cG [0] (hrec_l11Expr (Tl1Cur.mk x31_1_0 x31_1_1 x31_1_2) (([] ++ vars) ++ [[104], [116]]) (IntKind.i64.wrap (deep - 1)) hx32) ?_
              rintro _ _ ⟨rfl, rfl⟩
              show VO _ _ _ _ ⟨(_, .d (.st [.i .i64 x32_0_0, .s x32_0_1, .s x32_0_2, .i .i64 x32_0_3, .st [.i .i64 x32_0_4_0, .s x32_0_4_1, .sl 3 (eTypes x32_0_4_2)], .sl 9 (eExprs x32_0_5), .sl 11 (eArms x32_0_6)])) :: _, [.box [.d (.sl 1 (eBytes x32_1_0)), .d (.i .i64 x32_1_1), .d (.i .i64 x32_1_2)], .box [.d (.i .i64 0), .d (.s []), .d (.s []), .d (.i .i64 0), .d (.i .i64 0), .d (.s []), .nilsl, .nilsl, .nilsl], .frz 9 1 ((0 + 1) + 1) (eStrs (([] ++ vars) ++ [[104], [116]])), .dead 1, .arr 61 9 0 (eExprs [(TExpr.mk x30_0_0 x30_0_1 x30_0_2 x30_0_3 (TType.mk x30_0_4_0 x30_0_4_1 x30_0_4_2) x30_0_5 x30_0_6)]), .arr 9 1 0 (eStrs [[104], [116]])], _⟩ _
              refine VO_k (Q_build TBd.h TZ.h rfl (by repeat constructor)) ?_
              refine VO_freeze 5 rfl rfl ?_
              refine VO_lb (us := eArms [(TArm.mk [110, 105, 108] [] (TExpr.mk x31_0_0 x31_0_1 x31_0_2 x31_0_3 (TType.mk x31_0_4_0 x31_0_4_1 x31_0_4_2) x31_0_5 x31_0_6)), (TArm.mk [99, 111, 110, 115] [[104], [116]] (TExpr.mk x32_0_0 x32_0_1 x32_0_2 x32_0_3 (TType.mk x32_0_4_0 x32_0_4_1 x32_0_4_2) x32_0_5 x32_0_6))]) ?_
              refine VO_k (Q_build TBd.h TZ.h rfl (by repeat constructor)) ?_
              refine goL ?_
              refine V_freeze 4 rfl rfl ?_
              refine V_freeze 6 rfl rfl ?_
              refine V_ret ?_
              replace h := Option.some.inj h
              subst h
              exact R_rF [.d (.st [.i .i64 7, .s [], .s [], .i .i64 0, .st [.i .i64 0, .s [], .sl 3 []], .sl 9 (eExprs [(TExpr.mk x30_0_0 x30_0_1 x30_0_2 x30_0_3 (TType.mk x30_0_4_0 x30_0_4_1 x30_0_4_2) x30_0_5 x30_0_6)]), .sl 11 (eArms [(TArm.mk [110, 105, 108] [] (TExpr.mk x31_0_0 x31_0_1 x31_0_2 x31_0_3 (TType.mk x31_0_4_0 x31_0_4_1 x31_0_4_2) x31_0_5 x31_0_6)), (TArm.mk [99, 111, 110, 115] [[104], [116]] (TExpr.mk x32_0_0 x32_0_1 x32_0_2 x32_0_3 (TType.mk x32_0_4_0 x32_0_4_1 x32_0_4_2) x32_0_5 x32_0_6))])])] [.box [.d (.sl 1 (eBytes x32_1_0)), .d (.i .i64 x32_1_1), .d (.i .i64 x32_1_2)]] ⟨rfl, rfl⟩
            · replace h := cnd_f c27 h
              refine goL ?_
              refine V_cb (fun c33 => ?_) (fun c33 => ?_)
              · replace h := cnd_t c33 h
                refine goL ?_
                refine VO_r (QR_ar) ?_
                obtain ⟨x34, hx34, h⟩ := bnd_s h
                obtain ⟨⟨x34_0_0, x34_0_1, x34_0_2, x34_0_3, ⟨x34_0_4_0, x34_0_4_1, x34_0_4_2⟩, x34_0_5, x34_0_6⟩, ⟨x34_1_0, x34_1_1, x34_1_2⟩⟩ := x34
                refine VO_cG [0] (hrec_l11Expr (Tl1Cur.mk x1_1_0 x1_1_1 x1_1_2) vars (IntKind.i64.wrap (deep - 1)) hx34) ?_
                rintro _ _ ⟨rfl, rfl⟩
                show VO _ _ _ _ ⟨(_, .d (.st [.i .i64 x34_0_0, .s x34_0_1, .s x34_0_2, .i .i64 x34_0_3, .st [.i .i64 x34_0_4_0, .s x34_0_4_1, .sl 3 (eTypes x34_0_4_2)], .sl 9 (eExprs x34_0_5), .sl 11 (eArms x34_0_6)])) :: _, [.box [.d (.sl 1 (eBytes x34_1_0)), .d (.i .i64 x34_1_1), .d (.i .i64 x34_1_2)], .box [.d (.i .i64 0), .d (.s []), .d (.s []), .d (.i .i64 0), .d (.i .i64 0), .d (.s []), .nilsl, .nilsl, .nilsl]], _⟩ _
                refine goL ?_
                refine VO_l0 ?_
                refine goL ?_
                obtain ⟨g35, h⟩ := gd_s h
                refine VO_ap g35 ?_
                refine VO_l1t ([121] : List UInt8) ?_
                obtain ⟨g36, h⟩ := gd_s h
                refine VO_ap g36 ?_
                refine goL ?_
                refine VO_r (QR_ar) ?_
                refine VO_freezeO 2 rfl rfl ?_
                obtain ⟨x37, hx37, h⟩ := bnd_s h
                obtain ⟨⟨x37_0_0, x37_0_1, x37_0_2, x37_0_3, ⟨x37_0_4_0, x37_0_4_1, x37_0_4_2⟩, x37_0_5, x37_0_6⟩, ⟨x37_1_0, x37_1_1, x37_1_2⟩⟩ := x37
                refine VO_cG [0] (hrec_l11Expr (Tl1Cur.mk x34_1_0 x34_1_1 x34_1_2) (([] ++ vars) ++ [[121]]) (IntKind.i64.wrap (deep - 1)) hx37) ?_
                rintro _ _ ⟨rfl, rfl⟩
                show VO _ _ _ _ ⟨(_, .d (.st [.i .i64 x37_0_0, .s x37_0_1, .s x37_0_2, .i .i64 x37_0_3, .st [.i .i64 x37_0_4_0, .s x37_0_4_1, .sl 3 (eTypes x37_0_4_2)], .sl 9 (eExprs x37_0_5), .sl 11 (eArms x37_0_6)])) :: _, [.box [.d (.sl 1 (eBytes x37_1_0)), .d (.i .i64 x37_1_1), .d (.i .i64 x37_1_2)], .box [.d (.i .i64 0), .d (.s []), .d (.s []), .d (.i .i64 0), .d (.i .i64 0), .d (.s []), .nilsl, .nilsl, .nilsl], .frz 9 1 ((0 + 1) + 1) (eStrs (([] ++ vars) ++ [[121]])), .dead 1], _⟩ _
                refine VO_lb (us := eExprs [(TExpr.mk x34_0_0 x34_0_1 x34_0_2 x34_0_3 (TType.mk x34_0_4_0 x34_0_4_1 x34_0_4_2) x34_0_5 x34_0_6), (TExpr.mk x37_0_0 x37_0_1 x37_0_2 x37_0_3 (TType.mk x37_0_4_0 x37_0_4_1 x37_0_4_2) x37_0_5 x37_0_6)]) ?_
                refine VO_freeze 4 rfl rfl ?_
                obtain ⟨x38, hx38, h⟩ := bnd_s h
                obtain ⟨x38_0, x38_1, x38_2, x38_3, ⟨x38_4_0, x38_4_1, x38_4_2⟩, x38_5, x38_6⟩ := x38
                refine VO_k (Q_cl (w_l11Op 8 [121] [(TExpr.mk x34_0_0 x34_0_1 x34_0_2 x34_0_3 (TType.mk x34_0_4_0 x34_0_4_1 x34_0_4_2) x34_0_5 x34_0_6), (TExpr.mk x37_0_0 x37_0_1 x37_0_2 x37_0_3 (TType.mk x37_0_4_0 x37_0_4_1 x37_0_4_2) x37_0_5 x37_0_6)] hx38)) ?_
                refine goL ?_
                refine V_ret ?_
                replace h := Option.some.inj h
                subst h
                exact R_rH [.d (.st [.i .i64 x38_0, .s x38_1, .s x38_2, .i .i64 x38_3, .st [.i .i64 x38_4_0, .s x38_4_1, .sl 3 (eTypes x38_4_2)], .sl 9 (eExprs x38_5), .sl 11 (eArms x38_6)])] [.box [.d (.sl 1 (eBytes x37_1_0)), .d (.i .i64 x37_1_1), .d (.i .i64 x37_1_2)]] ⟨rfl, rfl⟩
              · replace h := cnd_f c33 h
                refine goL ?_
                refine V_cb (fun c39 => ?_) (fun c39 => ?_)
                · replace h := cnd_t c39 h
                  refine goL ?_
                  refine VO_r (QR_ar) ?_
                  obtain ⟨x40, hx40, h⟩ := bnd_s h
                  obtain ⟨⟨x40_0_0, x40_0_1, x40_0_2, x40_0_3, ⟨x40_0_4_0, x40_0_4_1, x40_0_4_2⟩, x40_0_5, x40_0_6⟩, ⟨x40_1_0, x40_1_1, x40_1_2⟩⟩ := x40
                  refine VO_cG [0] (hrec_l11Expr (Tl1Cur.mk x1_1_0 x1_1_1 x1_1_2) vars (IntKind.i64.wrap (deep - 1)) hx40) ?_
                  rintro _ _ ⟨rfl, rfl⟩
                  show VO _ _ _ _ ⟨(_, .d (.st [.i .i64 x40_0_0, .s x40_0_1, .s x40_0_2, .i .i64 x40_0_3, .st [.i .i64 x40_0_4_0, .s x40_0_4_1, .sl 3 (eTypes x40_0_4_2)], .sl 9 (eExprs x40_0_5), .sl 11 (eArms x40_0_6)])) :: _, [.box [.d (.sl 1 (eBytes x40_1_0)), .d (.i .i64 x40_1_1), .d (.i .i64 x40_1_2)], .box [.d (.i .i64 0), .d (.s []), .d (.s []), .d (.i .i64 0), .d (.i .i64 0), .d (.s []), .nilsl, .nilsl, .nilsl]], _⟩ _
                  refine goL ?_
                  refine VO_r (QR_ar) ?_
                  obtain ⟨x41, hx41, h⟩ := bnd_s h
                  obtain ⟨⟨x41_0_0, x41_0_1, x41_0_2, x41_0_3, ⟨x41_0_4_0, x41_0_4_1, x41_0_4_2⟩, x41_0_5, x41_0_6⟩, ⟨x41_1_0, x41_1_1, x41_1_2⟩⟩ := x41
                  refine VO_cG [0] (hrec_l11Expr (Tl1Cur.mk x40_1_0 x40_1_1 x40_1_2) vars (IntKind.i64.wrap (deep - 1)) hx41) ?_
                  rintro _ _ ⟨rfl, rfl⟩
                  show VO _ _ _ _ ⟨(_, .d (.st [.i .i64 x41_0_0, .s x41_0_1, .s x41_0_2, .i .i64 x41_0_3, .st [.i .i64 x41_0_4_0, .s x41_0_4_1, .sl 3 (eTypes x41_0_4_2)], .sl 9 (eExprs x41_0_5), .sl 11 (eArms x41_0_6)])) :: _, [.box [.d (.sl 1 (eBytes x41_1_0)), .d (.i .i64 x41_1_1), .d (.i .i64 x41_1_2)], .box [.d (.i .i64 0), .d (.s []), .d (.s []), .d (.i .i64 0), .d (.i .i64 0), .d (.s []), .nilsl, .nilsl, .nilsl]], _⟩ _
                  refine goL ?_
                  refine VO_r (QR_ar) ?_
                  obtain ⟨x42, hx42, h⟩ := bnd_s h
                  obtain ⟨⟨x42_0_0, x42_0_1, x42_0_2, x42_0_3, ⟨x42_0_4_0, x42_0_4_1, x42_0_4_2⟩, x42_0_5, x42_0_6⟩, ⟨x42_1_0, x42_1_1, x42_1_2⟩⟩ := x42
                  refine VO_cG [0] (hrec_l11Expr (Tl1Cur.mk x41_1_0 x41_1_1 x41_1_2) vars (IntKind.i64.wrap (deep - 1)) hx42) ?_
                  rintro _ _ ⟨rfl, rfl⟩
                  show VO _ _ _ _ ⟨(_, .d (.st [.i .i64 x42_0_0, .s x42_0_1, .s x42_0_2, .i .i64 x42_0_3, .st [.i .i64 x42_0_4_0, .s x42_0_4_1, .sl 3 (eTypes x42_0_4_2)], .sl 9 (eExprs x42_0_5), .sl 11 (eArms x42_0_6)])) :: _, [.box [.d (.sl 1 (eBytes x42_1_0)), .d (.i .i64 x42_1_1), .d (.i .i64 x42_1_2)], .box [.d (.i .i64 0), .d (.s []), .d (.s []), .d (.i .i64 0), .d (.i .i64 0), .d (.s []), .nilsl, .nilsl, .nilsl]], _⟩ _
                  refine VO_lb (us := eExprs [(TExpr.mk x40_0_0 x40_0_1 x40_0_2 x40_0_3 (TType.mk x40_0_4_0 x40_0_4_1 x40_0_4_2) x40_0_5 x40_0_6), (TExpr.mk x41_0_0 x41_0_1 x41_0_2 x41_0_3 (TType.mk x41_0_4_0 x41_0_4_1 x41_0_4_2) x41_0_5 x41_0_6), (TExpr.mk x42_0_0 x42_0_1 x42_0_2 x42_0_3 (TType.mk x42_0_4_0 x42_0_4_1 x42_0_4_2) x42_0_5 x42_0_6)]) ?_
                  refine VO_freeze 2 rfl rfl ?_
                  obtain ⟨x43, hx43, h⟩ := bnd_s h
                  obtain ⟨x43_0, x43_1, x43_2, x43_3, ⟨x43_4_0, x43_4_1, x43_4_2⟩, x43_5, x43_6⟩ := x43
                  refine VO_k (Q_cl (w_l11Op 9 [] [(TExpr.mk x40_0_0 x40_0_1 x40_0_2 x40_0_3 (TType.mk x40_0_4_0 x40_0_4_1 x40_0_4_2) x40_0_5 x40_0_6), (TExpr.mk x41_0_0 x41_0_1 x41_0_2 x41_0_3 (TType.mk x41_0_4_0 x41_0_4_1 x41_0_4_2) x41_0_5 x41_0_6), (TExpr.mk x42_0_0 x42_0_1 x42_0_2 x42_0_3 (TType.mk x42_0_4_0 x42_0_4_1 x42_0_4_2) x42_0_5 x42_0_6)] hx43)) ?_
                  refine goL ?_
                  refine V_ret ?_
                  replace h := Option.some.inj h
                  subst h
                  exact R_rH [.d (.st [.i .i64 x43_0, .s x43_1, .s x43_2, .i .i64 x43_3, .st [.i .i64 x43_4_0, .s x43_4_1, .sl 3 (eTypes x43_4_2)], .sl 9 (eExprs x43_5), .sl 11 (eArms x43_6)])] [.box [.d (.sl 1 (eBytes x42_1_0)), .d (.i .i64 x42_1_1), .d (.i .i64 x42_1_2)]] ⟨rfl, rfl⟩
                · replace h := cnd_f c39 h
                  refine goL ?_
                  refine V_cb (fun c44 => ?_) (fun c44 => ?_)
                  · replace h := cnd_t c44 h
                    refine goL ?_
                    refine VO_lb (us := eStrs [[43], [45], [42], [60], [61]]) ?_
                    refine VO_freeze 2 rfl rfl ?_
                    obtain ⟨x45, hx45, h⟩ := bnd_s h
                    obtain ⟨x45_0, ⟨x45_1_0, x45_1_1, x45_1_2⟩⟩ := x45
                    refine VO_cG [0] (w_l1Pick (Tl1Cur.mk x1_1_0 x1_1_1 x1_1_2) [[43], [45], [42], [60], [61]] hx45) ?_
                    rintro _ _ ⟨rfl, rfl⟩
                    show VO _ _ _ _ ⟨(_, .d (.s x45_0)) :: _, [.box [.d (.sl 1 (eBytes x45_1_0)), .d (.i .i64 x45_1_1), .d (.i .i64 x45_1_2)], .box [.d (.i .i64 0), .d (.s []), .d (.s []), .d (.i .i64 0), .d (.i .i64 0), .d (.s []), .nilsl, .nilsl, .nilsl], .frz 9 1 0 (eStrs [[43], [45], [42], [60], [61]])], _⟩ _
                    refine goL ?_
                    refine VO_r (QR_ar) ?_
                    obtain ⟨x46, hx46, h⟩ := bnd_s h
                    obtain ⟨⟨x46_0_0, x46_0_1, x46_0_2, x46_0_3, ⟨x46_0_4_0, x46_0_4_1, x46_0_4_2⟩, x46_0_5, x46_0_6⟩, ⟨x46_1_0, x46_1_1, x46_1_2⟩⟩ := x46
                    refine VO_cG [0] (hrec_l11Expr (Tl1Cur.mk x45_1_0 x45_1_1 x45_1_2) vars (IntKind.i64.wrap (deep - 1)) hx46) ?_
                    rintro _ _ ⟨rfl, rfl⟩
                    show VO _ _ _ _ ⟨(_, .d (.st [.i .i64 x46_0_0, .s x46_0_1, .s x46_0_2, .i .i64 x46_0_3, .st [.i .i64 x46_0_4_0, .s x46_0_4_1, .sl 3 (eTypes x46_0_4_2)], .sl 9 (eExprs x46_0_5), .sl 11 (eArms x46_0_6)])) :: _, [.box [.d (.sl 1 (eBytes x46_1_0)), .d (.i .i64 x46_1_1), .d (.i .i64 x46_1_2)], .box [.d (.i .i64 0), .d (.s []), .d (.s []), .d (.i .i64 0), .d (.i .i64 0), .d (.s []), .nilsl, .nilsl, .nilsl], .frz 9 1 0 (eStrs [[43], [45], [42], [60], [61]])], _⟩ _
                    refine goL ?_
                    refine VO_r (QR_ar) ?_
                    obtain ⟨x47, hx47, h⟩ := bnd_s h
                    obtain ⟨⟨x47_0_0, x47_0_1, x47_0_2, x47_0_3, ⟨x47_0_4_0, x47_0_4_1, x47_0_4_2⟩, x47_0_5, x47_0_6⟩, ⟨x47_1_0, x47_1_1, x47_1_2⟩⟩ := x47
                    refine VO_cG [0] (hrec_l11Expr (Tl1Cur.mk x46_1_0 x46_1_1 x46_1_2) vars (IntKind.i64.wrap (deep - 1)) hx47) ?_
                    rintro _ _ ⟨rfl, rfl⟩
                    show VO _ _ _ _ ⟨(_, .d (.st [.i .i64 x47_0_0, .s x47_0_1, .s x47_0_2, .i .i64 x47_0_3, .st [.i .i64 x47_0_4_0, .s x47_0_4_1, .sl 3 (eTypes x47_0_4_2)], .sl 9 (eExprs x47_0_5), .sl 11 (eArms x47_0_6)])) :: _, [.box [.d (.sl 1 (eBytes x47_1_0)), .d (.i .i64 x47_1_1), .d (.i .i64 x47_1_2)], .box [.d (.i .i64 0), .d (.s []), .d (.s []), .d (.i .i64 0), .d (.i .i64 0), .d (.s []), .nilsl, .nilsl, .nilsl], .frz 9 1 0 (eStrs [[43], [45], [42], [60], [61]])], _⟩ _
                    refine VO_lb (us := eExprs [(TExpr.mk x46_0_0 x46_0_1 x46_0_2 x46_0_3 (TType.mk x46_0_4_0 x46_0_4_1 x46_0_4_2) x46_0_5 x46_0_6), (TExpr.mk x47_0_0 x47_0_1 x47_0_2 x47_0_3 (TType.mk x47_0_4_0 x47_0_4_1 x47_0_4_2) x47_0_5 x47_0_6)]) ?_
                    refine VO_freeze 3 rfl rfl ?_
                    obtain ⟨x48, hx48, h⟩ := bnd_s h
                    obtain ⟨x48_0, x48_1, x48_2, x48_3, ⟨x48_4_0, x48_4_1, x48_4_2⟩, x48_5, x48_6⟩ := x48
                    refine VO_k (Q_cl (w_l11Op 10 x45_0 [(TExpr.mk x46_0_0 x46_0_1 x46_0_2 x46_0_3 (TType.mk x46_0_4_0 x46_0_4_1 x46_0_4_2) x46_0_5 x46_0_6), (TExpr.mk x47_0_0 x47_0_1 x47_0_2 x47_0_3 (TType.mk x47_0_4_0 x47_0_4_1 x47_0_4_2) x47_0_5 x47_0_6)] hx48)) ?_
                    refine goL ?_
                    refine V_ret ?_
                    replace h := Option.some.inj h
                    subst h
                    exact R_rH [.d (.st [.i .i64 x48_0, .s x48_1, .s x48_2, .i .i64 x48_3, .st [.i .i64 x48_4_0, .s x48_4_1, .sl 3 (eTypes x48_4_2)], .sl 9 (eExprs x48_5), .sl 11 (eArms x48_6)])] [.box [.d (.sl 1 (eBytes x47_1_0)), .d (.i .i64 x47_1_1), .d (.i .i64 x47_1_2)]] ⟨rfl, rfl⟩
                  · replace h := cnd_f c44 h
                    refine goL ?_
                    refine V_cb (fun c49 => ?_) (fun c49 => ?_)
                    · replace h := cnd_t c49 h
                      refine goL ?_
                      refine VO_r (QR_ar) ?_
                      obtain ⟨x50, hx50, h⟩ := bnd_s h
                      obtain ⟨⟨x50_0_0, x50_0_1, x50_0_2, x50_0_3, ⟨x50_0_4_0, x50_0_4_1, x50_0_4_2⟩, x50_0_5, x50_0_6⟩, ⟨x50_1_0, x50_1_1, x50_1_2⟩⟩ := x50
                      refine VO_cG [0] (hrec_l11Expr (Tl1Cur.mk x1_1_0 x1_1_1 x1_1_2) vars (IntKind.i64.wrap (deep - 1)) hx50) ?_
                      rintro _ _ ⟨rfl, rfl⟩
                      show VO _ _ _ _ ⟨(_, .d (.st [.i .i64 x50_0_0, .s x50_0_1, .s x50_0_2, .i .i64 x50_0_3, .st [.i .i64 x50_0_4_0, .s x50_0_4_1, .sl 3 (eTypes x50_0_4_2)], .sl 9 (eExprs x50_0_5), .sl 11 (eArms x50_0_6)])) :: _, [.box [.d (.sl 1 (eBytes x50_1_0)), .d (.i .i64 x50_1_1), .d (.i .i64 x50_1_2)], .box [.d (.i .i64 0), .d (.s []), .d (.s []), .d (.i .i64 0), .d (.i .i64 0), .d (.s []), .nilsl, .nilsl, .nilsl]], _⟩ _
                      refine VO_la1 (u := (.st [.i .i64 x50_0_0, .s x50_0_1, .s x50_0_2, .i .i64 x50_0_3, .st [.i .i64 x50_0_4_0, .s x50_0_4_1, .sl 3 (eTypes x50_0_4_2)], .sl 9 (eExprs x50_0_5), .sl 11 (eArms x50_0_6)])) ?_
                      refine VO_k (Q_build TBd.h TZ.h rfl (by repeat constructor)) ?_
                      refine goL ?_
                      refine V_freeze 2 rfl rfl ?_
                      refine V_ret ?_
                      replace h := Option.some.inj h
                      subst h
                      exact R_rF [.d (.st [.i .i64 11, .s [115, 104, 111, 119], .s [], .i .i64 0, .st [.i .i64 0, .s [], .sl 3 []], .sl 9 (eExprs [(TExpr.mk x50_0_0 x50_0_1 x50_0_2 x50_0_3 (TType.mk x50_0_4_0 x50_0_4_1 x50_0_4_2) x50_0_5 x50_0_6)]), .sl 11 []])] [.box [.d (.sl 1 (eBytes x50_1_0)), .d (.i .i64 x50_1_1), .d (.i .i64 x50_1_2)]] ⟨rfl, rfl⟩
                    · replace h := cnd_f c49 h
                      refine goL ?_
                      refine V_cb (fun c51 => ?_) (fun c51 => ?_)
                      · replace h := cnd_t c51 h
                        refine goL ?_
                        refine VO_l1t ([97] : List UInt8) ?_
                        refine VO_freezeO 2 rfl rfl ?_
                        obtain ⟨x52, hx52, h⟩ := bnd_s h
                        obtain ⟨⟨x52_0_0, x52_0_1, x52_0_2⟩, ⟨x52_1_0, x52_1_1, x52_1_2⟩⟩ := x52
                        refine VO_cG [0] (s_l4Ty 8 (Tl1Cur.mk x1_1_0 x1_1_1 x1_1_2) [[97]] 1 hx52) ?_
                        rintro _ _ ⟨rfl, rfl⟩
                        show VO _ _ _ _ ⟨(_, .d (.st [.i .i64 x52_0_0, .s x52_0_1, .sl 3 (eTypes x52_0_2)])) :: _, [.box [.d (.sl 1 (eBytes x52_1_0)), .d (.i .i64 x52_1_1), .d (.i .i64 x52_1_2)], .box [.d (.i .i64 0), .d (.s []), .d (.s []), .d (.i .i64 0), .d (.i .i64 0), .d (.s []), .nilsl, .nilsl, .nilsl], .frz 9 1 0 (eStrs [[97]])], _⟩ _
                        refine goL ?_
                        refine VO_r (QR_ar) ?_
                        obtain ⟨x53, hx53, h⟩ := bnd_s h
                        obtain ⟨⟨x53_0_0, x53_0_1, x53_0_2, x53_0_3, ⟨x53_0_4_0, x53_0_4_1, x53_0_4_2⟩, x53_0_5, x53_0_6⟩, ⟨x53_1_0, x53_1_1, x53_1_2⟩⟩ := x53
                        refine VO_cG [0] (hrec_l11Expr (Tl1Cur.mk x52_1_0 x52_1_1 x52_1_2) vars (IntKind.i64.wrap (deep - 1)) hx53) ?_
                        rintro _ _ ⟨rfl, rfl⟩
                        show VO _ _ _ _ ⟨(_, .d (.st [.i .i64 x53_0_0, .s x53_0_1, .s x53_0_2, .i .i64 x53_0_3, .st [.i .i64 x53_0_4_0, .s x53_0_4_1, .sl 3 (eTypes x53_0_4_2)], .sl 9 (eExprs x53_0_5), .sl 11 (eArms x53_0_6)])) :: _, [.box [.d (.sl 1 (eBytes x53_1_0)), .d (.i .i64 x53_1_1), .d (.i .i64 x53_1_2)], .box [.d (.i .i64 0), .d (.s []), .d (.s []), .d (.i .i64 0), .d (.i .i64 0), .d (.s []), .nilsl, .nilsl, .nilsl], .frz 9 1 0 (eStrs [[97]])], _⟩ _
                        refine VO_la1 (u := (.st [.i .i64 x53_0_0, .s x53_0_1, .s x53_0_2, .i .i64 x53_0_3, .st [.i .i64 x53_0_4_0, .s x53_0_4_1, .sl 3 (eTypes x53_0_4_2)], .sl 9 (eExprs x53_0_5), .sl 11 (eArms x53_0_6)])) ?_
                        refine VO_k (Q_build TBd.h TZ.h rfl (by repeat constructor)) ?_
                        refine goL ?_
                        refine V_freeze 3 rfl rfl ?_
                        refine V_ret ?_
                        replace h := Option.some.inj h
                        subst h
                        exact R_rF [.d (.st [.i .i64 12, .s [], .s [], .i .i64 0, .st [.i .i64 x52_0_0, .s x52_0_1, .sl 3 (eTypes x52_0_2)], .sl 9 (eExprs [(TExpr.mk x53_0_0 x53_0_1 x53_0_2 x53_0_3 (TType.mk x53_0_4_0 x53_0_4_1 x53_0_4_2) x53_0_5 x53_0_6)]), .sl 11 []])] [.box [.d (.sl 1 (eBytes x53_1_0)), .d (.i .i64 x53_1_1), .d (.i .i64 x53_1_2)]] ⟨rfl, rfl⟩
                      · replace h := cnd_f c51 h
                        refine V_skip ?_
                        show V _ _ _ _ _
                        refine goL ?_
                        obtain ⟨x54, hx54, h⟩ := bnd_s h
                        obtain ⟨x54_0, ⟨x54_1_0, x54_1_1, x54_1_2⟩⟩ := x54
                        refine VO_cG [0] (w_l1Below (Tl1Cur.mk x1_1_0 x1_1_1 x1_1_2) 20 hx54) ?_
                        rintro _ _ ⟨rfl, rfl⟩
                        show VO _ _ _ _ ⟨(_, .d (.i .i64 x54_0)) :: _, [.box [.d (.sl 1 (eBytes x54_1_0)), .d (.i .i64 x54_1_1), .d (.i .i64 x54_1_2)], .box [.d (.i .i64 0), .d (.s []), .d (.s []), .d (.i .i64 0), .d (.i .i64 0), .d (.s []), .nilsl, .nilsl, .nilsl]], _⟩ _
                        refine VO_r (QR_ar) ?_
                        obtain ⟨x55, hx55, h⟩ := lt_x h
                        obtain ⟨x55_0, x55_1, x55_2, x55_3, ⟨x55_4_0, x55_4_1, x55_4_2⟩, x55_5, x55_6⟩ := x55
                        have sx55 := w_l11Int (IntKind.i64.wrap (x54_0 - 5))
                        rw [hx55] at sx55
                        refine VO_r (QR_call (sx55)) ?_
                        refine goL ?_
                        refine V_ret ?_
                        replace h := Option.some.inj h
                        subst h
                        exact R_rH [.d (.st [.i .i64 x55_0, .s x55_1, .s x55_2, .i .i64 x55_3, .st [.i .i64 x55_4_0, .s x55_4_1, .sl 3 (eTypes x55_4_2)], .sl 9 (eExprs x55_5), .sl 11 (eArms x55_6)])] [.box [.d (.sl 1 (eBytes x54_1_0)), .d (.i .i64 x54_1_1), .d (.i .i64 x54_1_2)]] ⟨rfl, rfl⟩
def m_l11Expr : Nat → Tl1Cur → (List (List UInt8)) → Int → Option (TExpr × Tl1Cur)
  | 0, _, _, _ => none
  | n + 1, x0, x1, x2 => b_l11Expr (m_l11Expr n) x0 x1 x2
theorem s_l11Expr : ∀ (n : Nat) (x0 : Tl1Cur) (x1 : List (List UInt8)) (x2 : Int) {r : TExpr × Tl1Cur}, m_l11Expr n x0 x1 x2 = some r → Go.Eng.Spec Try.prog 39 [.ptr 0 0, .d (.sl 1 (eStrs x1)), .d (.i .i64 x2)] [.box [.d (.sl 1 (eBytes x0.b)), .d (.i .i64 x0.i), .d (.i .i64 x0.h)]] (fun sv Lo => sv = .d (eExpr r.1) ∧ Lo = [.box [.d (.sl 1 (eBytes r.2.b)), .d (.i .i64 r.2.i), .d (.i .i64 r.2.h)]]) := by
  intro n
  induction n with
  | zero => intro x0 x1 x2 r h; cases h
  | succ n ih => intro x0 x1 x2 r h; exact w_l11Expr ih x0 x1 x2 h
end Go.Proofs.Ytiaghdodeinecaa
