/- Ov2. Written by a program of mine (aw.py). -/
import Derived.Test.YtiaghdodeinecaaEng43
import Derived.Test.YtiaghdodeinecaaOv1
set_option linter.unusedVariables false
set_option linter.unusedSimpArgs false
set_option linter.unusedSectionVars false
namespace Go.Proofs.Ytiaghdodeinecaa
open Go Go.Eng
attribute [local irreducible] V VO VQ VY Quiet QR SpecP SpecO Rng PostP PostO PostG
def b_l4TyL (rec_l4TyL : Tl1Cur → (List (List UInt8)) → Int → Option (TType × Tl1Cur)) (c : Tl1Cur) (vars : List (List UInt8)) (deep : Int) : Option (TType × Tl1Cur) :=
bnd (b_l1Below c 8) fun x1 =>
lt_ ((cnd (decide (x1.1 < 3)) ((decide ((vars.length : Int) > 0))) (false))) fun b2 =>
(cnd b2 (
bnd (b_l1Below x1.2 (vars.length : Int)) fun x5 =>
bnd (at? vars x5.1) fun x6 =>
lt_ (b_sVar x6) fun x7 =>
(some (x7, x5.2))) (
lt_ ((cnd (decide (x1.1 < 5)) (true) ((decide (deep ≤ 0))))) fun b8 =>
(cnd b8 (
bnd (b_l1Pick x1.2 [[105, 110, 116], [98, 111, 111, 108], [117, 110, 105, 116]]) fun x11 =>
bnd (b_l4Con x11.1 []) fun x12 =>
(some (x12, x11.2))) (
(cnd (x1.1 == 5) (
bnd (rec_l4TyL x1.2 vars (IntKind.i64.wrap (deep - 1))) fun x14 =>
bnd (rec_l4TyL x14.2 vars (IntKind.i64.wrap (deep - 1))) fun x15 =>
bnd (b_l4Con [112, 97, 105, 114] [x14.1, x15.1]) fun x16 =>
(some (x16, x15.2))) (
bnd (b_l1Pick x1.2 [[108, 105, 115, 116], [108, 105, 115, 116], [98, 111, 120]]) fun x17 =>
bnd (rec_l4TyL x17.2 vars (IntKind.i64.wrap (deep - 1))) fun x18 =>
bnd (b_l4Con x17.1 [x18.1]) fun x19 =>
(some (x19, x18.2))))))))
set_option maxHeartbeats 4000000 in
theorem w_l4TyL {rec_l4TyL : Tl1Cur → (List (List UInt8)) → Int → Option (TType × Tl1Cur)} (hrec_l4TyL : ∀ (x0 : Tl1Cur) (x1 : List (List UInt8)) (x2 : Int) (w0 : Nat) {r : TType × Tl1Cur}, rec_l4TyL x0 x1 x2 = some r → Go.Eng.Spec Try.prog 37 [.ptr 0 0, .sl 1 w0, .d (.i .i64 x2)] [.box [.d (.sl 1 (eBytes x0.b)), .d (.i .i64 x0.i), .d (.i .i64 x0.h)], .arr 9 1 w0 (eStrs x1)] (fun sv Lo => sv = .d (eType r.1) ∧ Lo = [.box [.d (.sl 1 (eBytes r.2.b)), .d (.i .i64 r.2.i), .d (.i .i64 r.2.h)], .arr 9 1 w0 (eStrs x1)])) (c : Tl1Cur) (vars : List (List UInt8)) (deep : Int) (v1 : Nat) {r : TType × Tl1Cur} (h : b_l4TyL rec_l4TyL c vars deep = some r) : Go.Eng.Spec Try.prog 37 [.ptr 0 0, .sl 1 v1, .d (.i .i64 deep)] [.box [.d (.sl 1 (eBytes c.b)), .d (.i .i64 c.i), .d (.i .i64 c.h)], .arr 9 1 v1 (eStrs vars)] (fun sv Lo => sv = .d (eType r.1) ∧ Lo = [.box [.d (.sl 1 (eBytes r.2.b)), .d (.i .i64 r.2.i), .d (.i .i64 r.2.h)], .arr 9 1 v1 (eStrs vars)]) := by
  obtain ⟨c_0, c_1, c_2⟩ := c
  unfold b_l4TyL at h
  refine Spec_intro 2 Try.func37 rfl (by kernel_rfl) rfl rfl fun A _ => ?_
  refine goL ?_
  obtain ⟨x1, hx1, h⟩ := bnd_s h
  obtain ⟨x1_0, ⟨x1_1_0, x1_1_1, x1_1_2⟩⟩ := x1
  refine VO_cG [0] (w_l1Below (Tl1Cur.mk c_0 c_1 c_2) 8 hx1) ?_
  rintro _ _ ⟨rfl, rfl⟩
  show VO _ _ _ _ ⟨(_, .d (.i .i64 x1_0)) :: _, [.box [.d (.sl 1 (eBytes x1_1_0)), .d (.i .i64 x1_1_1), .d (.i .i64 x1_1_2)], .arr 9 1 v1 (eStrs vars), .box [.d (.i .i64 0), .d (.s []), .nilsl]], _⟩ _
  refine goL ?_
  refine V_seq (V_block ?_)
  refine goL ?_
  obtain ⟨b2, hb2, h⟩ := lt_x h
  refine VO_join ⟨[(0, .ptr 0 0), (1, .sl 1 v1), (2, .d (.i .i64 deep)), (6, .ptr 2 0), (7, .d (.i .i64 x1_0)), (10, .d (.b b2))], [.box [.d (.sl 1 (eBytes x1_1_0)), .d (.i .i64 x1_1_1), .d (.i .i64 x1_1_2)], .arr 9 1 v1 (eStrs vars), .box [.d (.i .i64 0), .d (.s []), .nilsl]], Try.f37.ntmps⟩ ?_ ?_
  · refine VO_case 13 (fun c3 => ?_) (fun c3 => ?_)
    · replace hb2 := cnd_t c3 hb2
      refine goL ?_
      refine VO_b ?_
      refine goL ?_
      cases hb2
      exact ⟨rfl, ⟨⟨rfl, rfl⟩, ⟨rfl, rfl⟩, ⟨rfl, rfl⟩, ⟨rfl, rfl⟩, ⟨rfl, rfl⟩, ⟨rfl, rfl⟩, trivial⟩, ⟨[], rfl⟩, rfl⟩
    · replace hb2 := cnd_f c3 hb2
      refine goL ?_
      cases hb2
      exact ⟨rfl, ⟨⟨rfl, rfl⟩, ⟨rfl, rfl⟩, ⟨rfl, rfl⟩, ⟨rfl, rfl⟩, ⟨rfl, rfl⟩, ⟨rfl, rfl⟩, trivial⟩, ⟨[], rfl⟩, rfl⟩
  refine goL ?_
  refine V_cb (fun c4 => ?_) (fun c4 => ?_)
  · replace h := cnd_t c4 h
    refine goL ?_
    obtain ⟨x5, hx5, h⟩ := bnd_s h
    obtain ⟨x5_0, ⟨x5_1_0, x5_1_1, x5_1_2⟩⟩ := x5
    refine VO_cG [0] (w_l1Below (Tl1Cur.mk x1_1_0 x1_1_1 x1_1_2) (vars.length : Int) hx5) ?_
    rintro _ _ ⟨rfl, rfl⟩
    show VO _ _ _ _ ⟨(_, .d (.i .i64 x5_0)) :: _, [.box [.d (.sl 1 (eBytes x5_1_0)), .d (.i .i64 x5_1_1), .d (.i .i64 x5_1_2)], .arr 9 1 v1 (eStrs vars), .box [.d (.i .i64 0), .d (.s []), .nilsl]], _⟩ _
    obtain ⟨x6, hx6, h⟩ := bnd_s h
    obtain ⟨hx60, hx6⟩ := at_s hx6
    refine VO_k (Q_ixai hx60 (List.getElem?_eq_some_iff.1 hx6).1) ?_
    refine VO_k (Q_lda hx6) ?_
    obtain ⟨x7, hx7, h⟩ := lt_x h
    obtain ⟨x7_0, x7_1, x7_2⟩ := x7
    have sx7 := w_sVar x6
    rw [hx7] at sx7
    refine VO_r (QR_call (sx7)) ?_
    refine goL ?_
    refine V_ret ?_
    replace h := Option.some.inj h
    subst h
    exact R_rH [.d (.st [.i .i64 x7_0, .s x7_1, .sl 3 (eTypes x7_2)])] [.box [.d (.sl 1 (eBytes x5_1_0)), .d (.i .i64 x5_1_1), .d (.i .i64 x5_1_2)], .arr 9 1 v1 (eStrs vars)] ⟨rfl, rfl⟩
  · replace h := cnd_f c4 h
    refine goL ?_
    obtain ⟨b8, hb8, h⟩ := lt_x h
    refine VO_join ⟨[(0, .ptr 0 0), (1, .sl 1 v1), (2, .d (.i .i64 deep)), (6, .ptr 2 0), (7, .d (.i .i64 x1_0)), (26, .d (.b b8))], [.box [.d (.sl 1 (eBytes x1_1_0)), .d (.i .i64 x1_1_1), .d (.i .i64 x1_1_2)], .arr 9 1 v1 (eStrs vars), .box [.d (.i .i64 0), .d (.s []), .nilsl]], Try.f37.ntmps⟩ ?_ ?_
    · refine VO_case 29 (fun c9 => ?_) (fun c9 => ?_)
      · replace hb8 := cnd_t c9 hb8
        refine goL ?_
        cases hb8
        exact ⟨rfl, ⟨⟨rfl, rfl⟩, ⟨rfl, rfl⟩, ⟨rfl, rfl⟩, ⟨rfl, rfl⟩, ⟨rfl, rfl⟩, ⟨rfl, rfl⟩, trivial⟩, ⟨[], rfl⟩, rfl⟩
      · replace hb8 := cnd_f c9 hb8
        refine goL ?_
        cases hb8
        exact ⟨rfl, ⟨⟨rfl, rfl⟩, ⟨rfl, rfl⟩, ⟨rfl, rfl⟩, ⟨rfl, rfl⟩, ⟨rfl, rfl⟩, ⟨rfl, rfl⟩, trivial⟩, ⟨[], rfl⟩, rfl⟩
    refine goL ?_
    refine V_cb (fun c10 => ?_) (fun c10 => ?_)
    · replace h := cnd_t c10 h
      refine goL ?_
      refine VO_lb (us := eStrs [[105, 110, 116], [98, 111, 111, 108], [117, 110, 105, 116]]) ?_
      refine VO_freeze 3 rfl rfl ?_
      obtain ⟨x11, hx11, h⟩ := bnd_s h
      obtain ⟨x11_0, ⟨x11_1_0, x11_1_1, x11_1_2⟩⟩ := x11
      refine VO_cG [0] (w_l1Pick (Tl1Cur.mk x1_1_0 x1_1_1 x1_1_2) [[105, 110, 116], [98, 111, 111, 108], [117, 110, 105, 116]] hx11) ?_
      rintro _ _ ⟨rfl, rfl⟩
      show VO _ _ _ _ ⟨(_, .d (.s x11_0)) :: _, [.box [.d (.sl 1 (eBytes x11_1_0)), .d (.i .i64 x11_1_1), .d (.i .i64 x11_1_2)], .arr 9 1 v1 (eStrs vars), .box [.d (.i .i64 0), .d (.s []), .nilsl], .frz 9 1 0 (eStrs [[105, 110, 116], [98, 111, 111, 108], [117, 110, 105, 116]])], _⟩ _
      obtain ⟨x12, hx12, h⟩ := bnd_s h
      obtain ⟨x12_0, x12_1, x12_2⟩ := x12
      refine VO_r (QR_call (w_l4Con x11_0 [] hx12)) ?_
      refine goL ?_
      refine V_ret ?_
      replace h := Option.some.inj h
      subst h
      exact R_rH [.d (.st [.i .i64 x12_0, .s x12_1, .sl 3 (eTypes x12_2)])] [.box [.d (.sl 1 (eBytes x11_1_0)), .d (.i .i64 x11_1_1), .d (.i .i64 x11_1_2)], .arr 9 1 v1 (eStrs vars)] ⟨rfl, rfl⟩
    · replace h := cnd_f c10 h
      refine goL ?_
      refine V_cb (fun c13 => ?_) (fun c13 => ?_)
      · replace h := cnd_t c13 h
        refine goL ?_
        refine VO_r (QR_ar) ?_
        obtain ⟨x14, hx14, h⟩ := bnd_s h
        obtain ⟨⟨x14_0_0, x14_0_1, x14_0_2⟩, ⟨x14_1_0, x14_1_1, x14_1_2⟩⟩ := x14
        refine VO_cG [0, 1] (hrec_l4TyL (Tl1Cur.mk x1_1_0 x1_1_1 x1_1_2) vars (IntKind.i64.wrap (deep - 1)) v1 hx14) ?_
        rintro _ _ ⟨rfl, rfl⟩
        show VO _ _ _ _ ⟨(_, .d (.st [.i .i64 x14_0_0, .s x14_0_1, .sl 3 (eTypes x14_0_2)])) :: _, [.box [.d (.sl 1 (eBytes x14_1_0)), .d (.i .i64 x14_1_1), .d (.i .i64 x14_1_2)], .arr 9 1 v1 (eStrs vars), .box [.d (.i .i64 0), .d (.s []), .nilsl]], _⟩ _
        refine goL ?_
        refine VO_r (QR_ar) ?_
        obtain ⟨x15, hx15, h⟩ := bnd_s h
        obtain ⟨⟨x15_0_0, x15_0_1, x15_0_2⟩, ⟨x15_1_0, x15_1_1, x15_1_2⟩⟩ := x15
        refine VO_cG [0, 1] (hrec_l4TyL (Tl1Cur.mk x14_1_0 x14_1_1 x14_1_2) vars (IntKind.i64.wrap (deep - 1)) v1 hx15) ?_
        rintro _ _ ⟨rfl, rfl⟩
        show VO _ _ _ _ ⟨(_, .d (.st [.i .i64 x15_0_0, .s x15_0_1, .sl 3 (eTypes x15_0_2)])) :: _, [.box [.d (.sl 1 (eBytes x15_1_0)), .d (.i .i64 x15_1_1), .d (.i .i64 x15_1_2)], .arr 9 1 v1 (eStrs vars), .box [.d (.i .i64 0), .d (.s []), .nilsl]], _⟩ _
        refine VO_lb (us := eTypes [(TType.mk x14_0_0 x14_0_1 x14_0_2), (TType.mk x15_0_0 x15_0_1 x15_0_2)]) ?_
        refine VO_freeze 3 rfl rfl ?_
        obtain ⟨x16, hx16, h⟩ := bnd_s h
        obtain ⟨x16_0, x16_1, x16_2⟩ := x16
        refine VO_k (Q_cl (w_l4Con [112, 97, 105, 114] [(TType.mk x14_0_0 x14_0_1 x14_0_2), (TType.mk x15_0_0 x15_0_1 x15_0_2)] hx16)) ?_
        refine goL ?_
        refine V_ret ?_
        replace h := Option.some.inj h
        subst h
        exact R_rH [.d (.st [.i .i64 x16_0, .s x16_1, .sl 3 (eTypes x16_2)])] [.box [.d (.sl 1 (eBytes x15_1_0)), .d (.i .i64 x15_1_1), .d (.i .i64 x15_1_2)], .arr 9 1 v1 (eStrs vars)] ⟨rfl, rfl⟩
      · replace h := cnd_f c13 h
        refine V_skip ?_
        show V _ _ _ _ _
        refine goL ?_
        refine VO_lb (us := eStrs [[108, 105, 115, 116], [108, 105, 115, 116], [98, 111, 120]]) ?_
        refine VO_freeze 3 rfl rfl ?_
        obtain ⟨x17, hx17, h⟩ := bnd_s h
        obtain ⟨x17_0, ⟨x17_1_0, x17_1_1, x17_1_2⟩⟩ := x17
        refine VO_cG [0] (w_l1Pick (Tl1Cur.mk x1_1_0 x1_1_1 x1_1_2) [[108, 105, 115, 116], [108, 105, 115, 116], [98, 111, 120]] hx17) ?_
        rintro _ _ ⟨rfl, rfl⟩
        show VO _ _ _ _ ⟨(_, .d (.s x17_0)) :: _, [.box [.d (.sl 1 (eBytes x17_1_0)), .d (.i .i64 x17_1_1), .d (.i .i64 x17_1_2)], .arr 9 1 v1 (eStrs vars), .box [.d (.i .i64 0), .d (.s []), .nilsl], .frz 9 1 0 (eStrs [[108, 105, 115, 116], [108, 105, 115, 116], [98, 111, 120]])], _⟩ _
        refine goL ?_
        refine VO_r (QR_ar) ?_
        obtain ⟨x18, hx18, h⟩ := bnd_s h
        obtain ⟨⟨x18_0_0, x18_0_1, x18_0_2⟩, ⟨x18_1_0, x18_1_1, x18_1_2⟩⟩ := x18
        refine VO_cG [0, 1] (hrec_l4TyL (Tl1Cur.mk x17_1_0 x17_1_1 x17_1_2) vars (IntKind.i64.wrap (deep - 1)) v1 hx18) ?_
        rintro _ _ ⟨rfl, rfl⟩
        show VO _ _ _ _ ⟨(_, .d (.st [.i .i64 x18_0_0, .s x18_0_1, .sl 3 (eTypes x18_0_2)])) :: _, [.box [.d (.sl 1 (eBytes x18_1_0)), .d (.i .i64 x18_1_1), .d (.i .i64 x18_1_2)], .arr 9 1 v1 (eStrs vars), .box [.d (.i .i64 0), .d (.s []), .nilsl], .frz 9 1 0 (eStrs [[108, 105, 115, 116], [108, 105, 115, 116], [98, 111, 120]])], _⟩ _
        refine VO_la1 (u := (.st [.i .i64 x18_0_0, .s x18_0_1, .sl 3 (eTypes x18_0_2)])) ?_
        refine VO_freeze 4 rfl rfl ?_
        obtain ⟨x19, hx19, h⟩ := bnd_s h
        obtain ⟨x19_0, x19_1, x19_2⟩ := x19
        refine VO_k (Q_cl (w_l4Con x17_0 [(TType.mk x18_0_0 x18_0_1 x18_0_2)] hx19)) ?_
        refine goL ?_
        refine V_ret ?_
        replace h := Option.some.inj h
        subst h
        exact R_rH [.d (.st [.i .i64 x19_0, .s x19_1, .sl 3 (eTypes x19_2)])] [.box [.d (.sl 1 (eBytes x18_1_0)), .d (.i .i64 x18_1_1), .d (.i .i64 x18_1_2)], .arr 9 1 v1 (eStrs vars)] ⟨rfl, rfl⟩
def m_l4TyL : Nat → Tl1Cur → (List (List UInt8)) → Int → Option (TType × Tl1Cur)
  | 0, _, _, _ => none
  | n + 1, x0, x1, x2 => b_l4TyL (m_l4TyL n) x0 x1 x2
theorem s_l4TyL : ∀ (n : Nat) (x0 : Tl1Cur) (x1 : List (List UInt8)) (x2 : Int) (w0 : Nat) {r : TType × Tl1Cur}, m_l4TyL n x0 x1 x2 = some r → Go.Eng.Spec Try.prog 37 [.ptr 0 0, .sl 1 w0, .d (.i .i64 x2)] [.box [.d (.sl 1 (eBytes x0.b)), .d (.i .i64 x0.i), .d (.i .i64 x0.h)], .arr 9 1 w0 (eStrs x1)] (fun sv Lo => sv = .d (eType r.1) ∧ Lo = [.box [.d (.sl 1 (eBytes r.2.b)), .d (.i .i64 r.2.i), .d (.i .i64 r.2.h)], .arr 9 1 w0 (eStrs x1)]) := by
  intro n
  induction n with
  | zero => intro x0 x1 x2 w0 r h; cases h
  | succ n ih => intro x0 x1 x2 w0 r h; exact w_l4TyL ih x0 x1 x2 w0 h
def b_l13Inst (c : Tl1Cur) : Option (TInstance × Tl1Cur) :=
bnd (b_l1Pick c [[115, 104, 111, 119], [101, 113], [97, 100, 100]]) fun x1 =>
bnd (b_l1Below x1.2 9) fun x2 =>
lt_ (b_l11Int x2.1) fun x3 =>
bnd (b_l1Below x2.2 4) fun x4 =>
(cnd (x4.1 == 0) (
bnd (b_l4Int ) fun x6 =>
bnd (b_l1Once x4.2 3) fun x7 =>
bnd ((cnd x7.1 (
bnd (m_l4Ty 8 x7.2 [] 1) fun x10 =>
(some (x10.2.b, x10.2.i, x10.2.h, true, x10.1.kind, x10.1.name, x10.1.args))) (
(some (x7.2.b, x7.2.i, x7.2.h, false, 0, [], []))))) fun b8 =>
bnd (b_l1Once (Tl1Cur.mk b8.1 b8.2.1 b8.2.2.1) 4) fun x11 =>
bnd (b_l1Below x11.2 12) fun x12 =>
(cnd (x12.1 == 0) (
bnd (b_l4Free x12.2 2) fun x14 =>
(some ((TInstance.mk x1.1 [] x14.1 [] x11.1 b8.2.2.2.1 (TType.mk b8.2.2.2.2.1 b8.2.2.2.2.2.1 b8.2.2.2.2.2.2) [(TMethod.mk [109] [[120]] x3)]), x14.2))) (
(cnd (x12.1 == 1) (
bnd (b_l1Pick x12.2 [[97], [99]]) fun x16 =>
gd ([x16.1].length ≤ 4294967296) (
(some ((TInstance.mk x1.1 [x16.1] x6 [] x11.1 b8.2.2.2.1 (TType.mk b8.2.2.2.2.1 b8.2.2.2.2.2.1 b8.2.2.2.2.2.2) [(TMethod.mk [109] [[120]] x3)]), x16.2)))) (
(cnd (x12.1 == 2) (
bnd (b_l4Free x12.2 1) fun x19 =>
gd (([] : List TBound).length + [(TBound.mk [101, 113] x19.1)].length ≤ 4294967296) (
(some ((TInstance.mk x1.1 [] x6 ([] ++ [(TBound.mk [101, 113] x19.1)]) x11.1 b8.2.2.2.1 (TType.mk b8.2.2.2.2.1 b8.2.2.2.2.2.1 b8.2.2.2.2.2.2) [(TMethod.mk [109] [[120]] x3)]), x19.2)))) (
(cnd (x12.1 == 3) (
bnd (m_l11Expr 8 x12.2 [[120], [121]] 2) fun x22 =>
bnd (at? [(TMethod.mk [109] [[120]] x3)] 0) fun x23 =>
(some ((TInstance.mk x1.1 [] x6 [] x11.1 b8.2.2.2.1 (TType.mk b8.2.2.2.2.1 b8.2.2.2.2.2.1 b8.2.2.2.2.2.2) ([(TMethod.mk [109] [[120]] x3)].set 0 (TMethod.mk x23.name x23.vars x22.1))), x22.2))) (
(cnd (x12.1 == 4) (
bnd (b_l4Int ) fun x25 =>
(some ((TInstance.mk x1.1 [] x6 [] x11.1 b8.2.2.2.1 x25 [(TMethod.mk [109] [[120]] x3)]), x12.2))) (
(cnd (x12.1 == 5) (
bnd (at? [(TMethod.mk [109] [[120]] x3)] 0) fun x27 =>
(some ((TInstance.mk x1.1 [] x6 [] x11.1 b8.2.2.2.1 (TType.mk b8.2.2.2.2.1 b8.2.2.2.2.2.1 b8.2.2.2.2.2.2) ([(TMethod.mk [109] [[120]] x3)].set 0 (TMethod.mk x27.name [] x27.body))), x12.2))) (
(some ((TInstance.mk x1.1 [] x6 [] x11.1 b8.2.2.2.1 (TType.mk b8.2.2.2.2.1 b8.2.2.2.2.2.1 b8.2.2.2.2.2.2) [(TMethod.mk [109] [[120]] x3)]), x12.2))))))))))))))) (
(cnd (x4.1 == 1) (
lt_ (b_sVar [97]) fun x29 =>
bnd (b_l4Con [108, 105, 115, 116] [x29]) fun x30 =>
lt_ (b_sVar [97]) fun x31 =>
bnd (b_l1Once x4.2 3) fun x32 =>
bnd ((cnd x32.1 (
bnd (m_l4TyL 8 x32.2 [[97]] 1) fun x35 =>
(some (x35.2.b, x35.2.i, x35.2.h, true, x35.1.kind, x35.1.name, x35.1.args))) (
(some (x32.2.b, x32.2.i, x32.2.h, false, 0, [], []))))) fun b33 =>
bnd (b_l1Once (Tl1Cur.mk b33.1 b33.2.1 b33.2.2.1) 4) fun x36 =>
bnd (b_l1Below x36.2 12) fun x37 =>
(cnd (x37.1 == 0) (
bnd (b_l4Free x37.2 2) fun x39 =>
(some ((TInstance.mk x1.1 [[97]] x39.1 [(TBound.mk x1.1 x31)] x36.1 b33.2.2.2.1 (TType.mk b33.2.2.2.2.1 b33.2.2.2.2.2.1 b33.2.2.2.2.2.2) [(TMethod.mk [109] [[120]] x3)]), x39.2))) (
(cnd (x37.1 == 1) (
bnd (b_l1Pick x37.2 [[97], [99]]) fun x41 =>
gd ([[97]].length + [x41.1].length ≤ 4294967296) (
(some ((TInstance.mk x1.1 ([[97]] ++ [x41.1]) x30 [(TBound.mk x1.1 x31)] x36.1 b33.2.2.2.1 (TType.mk b33.2.2.2.2.1 b33.2.2.2.2.2.1 b33.2.2.2.2.2.2) [(TMethod.mk [109] [[120]] x3)]), x41.2)))) (
(cnd (x37.1 == 2) (
bnd (b_l4Free x37.2 1) fun x44 =>
gd ([(TBound.mk x1.1 x31)].length + [(TBound.mk [101, 113] x44.1)].length ≤ 4294967296) (
(some ((TInstance.mk x1.1 [[97]] x30 ([(TBound.mk x1.1 x31)] ++ [(TBound.mk [101, 113] x44.1)]) x36.1 b33.2.2.2.1 (TType.mk b33.2.2.2.2.1 b33.2.2.2.2.2.1 b33.2.2.2.2.2.2) [(TMethod.mk [109] [[120]] x3)]), x44.2)))) (
(cnd (x37.1 == 3) (
bnd (m_l11Expr 8 x37.2 [[120], [121]] 2) fun x47 =>
bnd (at? [(TMethod.mk [109] [[120]] x3)] 0) fun x48 =>
(some ((TInstance.mk x1.1 [[97]] x30 [(TBound.mk x1.1 x31)] x36.1 b33.2.2.2.1 (TType.mk b33.2.2.2.2.1 b33.2.2.2.2.2.1 b33.2.2.2.2.2.2) ([(TMethod.mk [109] [[120]] x3)].set 0 (TMethod.mk x48.name x48.vars x47.1))), x47.2))) (
(cnd (x37.1 == 4) (
bnd (b_l4Int ) fun x50 =>
(some ((TInstance.mk x1.1 [[97]] x30 [(TBound.mk x1.1 x31)] x36.1 b33.2.2.2.1 x50 [(TMethod.mk [109] [[120]] x3)]), x37.2))) (
(cnd (x37.1 == 5) (
bnd (at? [(TMethod.mk [109] [[120]] x3)] 0) fun x52 =>
(some ((TInstance.mk x1.1 [[97]] x30 [(TBound.mk x1.1 x31)] x36.1 b33.2.2.2.1 (TType.mk b33.2.2.2.2.1 b33.2.2.2.2.2.1 b33.2.2.2.2.2.2) ([(TMethod.mk [109] [[120]] x3)].set 0 (TMethod.mk x52.name [] x52.body))), x37.2))) (
(some ((TInstance.mk x1.1 [[97]] x30 [(TBound.mk x1.1 x31)] x36.1 b33.2.2.2.1 (TType.mk b33.2.2.2.2.1 b33.2.2.2.2.2.1 b33.2.2.2.2.2.2) [(TMethod.mk [109] [[120]] x3)]), x37.2))))))))))))))) (
(cnd (x4.1 == 2) (
lt_ (b_sVar [97]) fun x54 =>
lt_ (b_sVar [98]) fun x55 =>
bnd (b_l4Con [112, 97, 105, 114] [x54, x55]) fun x56 =>
bnd (b_l1Once x4.2 3) fun x57 =>
bnd ((cnd x57.1 (
bnd (m_l4TyL 8 x57.2 [[97], [98]] 1) fun x60 =>
(some (x60.2.b, x60.2.i, x60.2.h, true, x60.1.kind, x60.1.name, x60.1.args))) (
(some (x57.2.b, x57.2.i, x57.2.h, false, 0, [], []))))) fun b58 =>
bnd (b_l1Once (Tl1Cur.mk b58.1 b58.2.1 b58.2.2.1) 4) fun x61 =>
bnd (b_l1Below x61.2 12) fun x62 =>
(cnd (x62.1 == 0) (
bnd (b_l4Free x62.2 2) fun x64 =>
(some ((TInstance.mk x1.1 [[97], [98]] x64.1 [] x61.1 b58.2.2.2.1 (TType.mk b58.2.2.2.2.1 b58.2.2.2.2.2.1 b58.2.2.2.2.2.2) [(TMethod.mk [109] [[120]] x3)]), x64.2))) (
(cnd (x62.1 == 1) (
bnd (b_l1Pick x62.2 [[97], [99]]) fun x66 =>
gd ([[97], [98]].length + [x66.1].length ≤ 4294967296) (
(some ((TInstance.mk x1.1 ([[97], [98]] ++ [x66.1]) x56 [] x61.1 b58.2.2.2.1 (TType.mk b58.2.2.2.2.1 b58.2.2.2.2.2.1 b58.2.2.2.2.2.2) [(TMethod.mk [109] [[120]] x3)]), x66.2)))) (
(cnd (x62.1 == 2) (
bnd (b_l4Free x62.2 1) fun x69 =>
gd (([] : List TBound).length + [(TBound.mk [101, 113] x69.1)].length ≤ 4294967296) (
(some ((TInstance.mk x1.1 [[97], [98]] x56 ([] ++ [(TBound.mk [101, 113] x69.1)]) x61.1 b58.2.2.2.1 (TType.mk b58.2.2.2.2.1 b58.2.2.2.2.2.1 b58.2.2.2.2.2.2) [(TMethod.mk [109] [[120]] x3)]), x69.2)))) (
(cnd (x62.1 == 3) (
bnd (m_l11Expr 8 x62.2 [[120], [121]] 2) fun x72 =>
bnd (at? [(TMethod.mk [109] [[120]] x3)] 0) fun x73 =>
(some ((TInstance.mk x1.1 [[97], [98]] x56 [] x61.1 b58.2.2.2.1 (TType.mk b58.2.2.2.2.1 b58.2.2.2.2.2.1 b58.2.2.2.2.2.2) ([(TMethod.mk [109] [[120]] x3)].set 0 (TMethod.mk x73.name x73.vars x72.1))), x72.2))) (
(cnd (x62.1 == 4) (
bnd (b_l4Int ) fun x75 =>
(some ((TInstance.mk x1.1 [[97], [98]] x56 [] x61.1 b58.2.2.2.1 x75 [(TMethod.mk [109] [[120]] x3)]), x62.2))) (
(cnd (x62.1 == 5) (
bnd (at? [(TMethod.mk [109] [[120]] x3)] 0) fun x77 =>
(some ((TInstance.mk x1.1 [[97], [98]] x56 [] x61.1 b58.2.2.2.1 (TType.mk b58.2.2.2.2.1 b58.2.2.2.2.2.1 b58.2.2.2.2.2.2) ([(TMethod.mk [109] [[120]] x3)].set 0 (TMethod.mk x77.name [] x77.body))), x62.2))) (
(some ((TInstance.mk x1.1 [[97], [98]] x56 [] x61.1 b58.2.2.2.1 (TType.mk b58.2.2.2.2.1 b58.2.2.2.2.2.1 b58.2.2.2.2.2.2) [(TMethod.mk [109] [[120]] x3)]), x62.2))))))))))))))) (
lt_ (b_sVar [97]) fun x78 =>
lt_ (b_sVar [97]) fun x79 =>
bnd (b_l1Once x4.2 3) fun x80 =>
bnd ((cnd x80.1 (
bnd (m_l4TyL 8 x80.2 [[97]] 1) fun x83 =>
(some (x83.2.b, x83.2.i, x83.2.h, true, x83.1.kind, x83.1.name, x83.1.args))) (
(some (x80.2.b, x80.2.i, x80.2.h, false, 0, [], []))))) fun b81 =>
bnd (b_l1Once (Tl1Cur.mk b81.1 b81.2.1 b81.2.2.1) 4) fun x84 =>
bnd (b_l1Below x84.2 12) fun x85 =>
(cnd (x85.1 == 0) (
bnd (b_l4Free x85.2 2) fun x87 =>
(some ((TInstance.mk x1.1 [[97]] x87.1 [(TBound.mk [111, 114, 100] x79)] x84.1 b81.2.2.2.1 (TType.mk b81.2.2.2.2.1 b81.2.2.2.2.2.1 b81.2.2.2.2.2.2) [(TMethod.mk [109] [[120]] x3)]), x87.2))) (
(cnd (x85.1 == 1) (
bnd (b_l1Pick x85.2 [[97], [99]]) fun x89 =>
gd ([[97]].length + [x89.1].length ≤ 4294967296) (
(some ((TInstance.mk x1.1 ([[97]] ++ [x89.1]) x78 [(TBound.mk [111, 114, 100] x79)] x84.1 b81.2.2.2.1 (TType.mk b81.2.2.2.2.1 b81.2.2.2.2.2.1 b81.2.2.2.2.2.2) [(TMethod.mk [109] [[120]] x3)]), x89.2)))) (
(cnd (x85.1 == 2) (
bnd (b_l4Free x85.2 1) fun x92 =>
gd ([(TBound.mk [111, 114, 100] x79)].length + [(TBound.mk [101, 113] x92.1)].length ≤ 4294967296) (
(some ((TInstance.mk x1.1 [[97]] x78 ([(TBound.mk [111, 114, 100] x79)] ++ [(TBound.mk [101, 113] x92.1)]) x84.1 b81.2.2.2.1 (TType.mk b81.2.2.2.2.1 b81.2.2.2.2.2.1 b81.2.2.2.2.2.2) [(TMethod.mk [109] [[120]] x3)]), x92.2)))) (
(cnd (x85.1 == 3) (
bnd (m_l11Expr 8 x85.2 [[120], [121]] 2) fun x95 =>
bnd (at? [(TMethod.mk [109] [[120]] x3)] 0) fun x96 =>
(some ((TInstance.mk x1.1 [[97]] x78 [(TBound.mk [111, 114, 100] x79)] x84.1 b81.2.2.2.1 (TType.mk b81.2.2.2.2.1 b81.2.2.2.2.2.1 b81.2.2.2.2.2.2) ([(TMethod.mk [109] [[120]] x3)].set 0 (TMethod.mk x96.name x96.vars x95.1))), x95.2))) (
(cnd (x85.1 == 4) (
bnd (b_l4Int ) fun x98 =>
(some ((TInstance.mk x1.1 [[97]] x78 [(TBound.mk [111, 114, 100] x79)] x84.1 b81.2.2.2.1 x98 [(TMethod.mk [109] [[120]] x3)]), x85.2))) (
(cnd (x85.1 == 5) (
bnd (at? [(TMethod.mk [109] [[120]] x3)] 0) fun x100 =>
(some ((TInstance.mk x1.1 [[97]] x78 [(TBound.mk [111, 114, 100] x79)] x84.1 b81.2.2.2.1 (TType.mk b81.2.2.2.2.1 b81.2.2.2.2.2.1 b81.2.2.2.2.2.2) ([(TMethod.mk [109] [[120]] x3)].set 0 (TMethod.mk x100.name [] x100.body))), x85.2))) (
(some ((TInstance.mk x1.1 [[97]] x78 [(TBound.mk [111, 114, 100] x79)] x84.1 b81.2.2.2.1 (TType.mk b81.2.2.2.2.1 b81.2.2.2.2.2.1 b81.2.2.2.2.2.2) [(TMethod.mk [109] [[120]] x3)]), x85.2))))))))))))))))))))
set_option maxHeartbeats 4000000 in
theorem w_l13Inst (c : Tl1Cur) {r : TInstance × Tl1Cur} (h : b_l13Inst c = some r) : Go.Eng.Spec Try.prog 17 [.ptr 0 0] [.box [.d (.sl 1 (eBytes c.b)), .d (.i .i64 c.i), .d (.i .i64 c.h)]] (fun sv Lo => sv = .d (eInstance r.1) ∧ Lo = [.box [.d (.sl 1 (eBytes r.2.b)), .d (.i .i64 r.2.i), .d (.i .i64 r.2.h)]]) := by
  obtain ⟨c_0, c_1, c_2⟩ := c
  unfold b_l13Inst at h
  refine Spec_intro 1 Try.func17 rfl (by kernel_rfl) rfl rfl fun A _ => ?_
  refine goL ?_
  refine VO_lb (us := eStrs [[115, 104, 111, 119], [101, 113], [97, 100, 100]]) ?_
  refine VO_freeze 2 rfl rfl ?_
  obtain ⟨x1, hx1, h⟩ := bnd_s h
  obtain ⟨x1_0, ⟨x1_1_0, x1_1_1, x1_1_2⟩⟩ := x1
  refine VO_cG [0] (w_l1Pick (Tl1Cur.mk c_0 c_1 c_2) [[115, 104, 111, 119], [101, 113], [97, 100, 100]] hx1) ?_
  rintro _ _ ⟨rfl, rfl⟩
  show VO _ _ _ _ ⟨(_, .d (.s x1_0)) :: _, [.box [.d (.sl 1 (eBytes x1_1_0)), .d (.i .i64 x1_1_1), .d (.i .i64 x1_1_2)], .box [.d (.s []), .nilsl, .d (.i .i64 0), .d (.s []), .nilsl, .nilsl, .d (.b false), .d (.b false), .d (.i .i64 0), .d (.s []), .nilsl, .nilsl], .frz 9 1 0 (eStrs [[115, 104, 111, 119], [101, 113], [97, 100, 100]])], _⟩ _
  refine VO_la1 (u := (.s [120])) ?_
  refine goL ?_
  obtain ⟨x2, hx2, h⟩ := bnd_s h
  obtain ⟨x2_0, ⟨x2_1_0, x2_1_1, x2_1_2⟩⟩ := x2
  refine VO_cG [0] (w_l1Below (Tl1Cur.mk x1_1_0 x1_1_1 x1_1_2) 9 hx2) ?_
  rintro _ _ ⟨rfl, rfl⟩
  show VO _ _ _ _ ⟨(_, .d (.i .i64 x2_0)) :: _, [.box [.d (.sl 1 (eBytes x2_1_0)), .d (.i .i64 x2_1_1), .d (.i .i64 x2_1_2)], .box [.d (.s []), .nilsl, .d (.i .i64 0), .d (.s []), .nilsl, .nilsl, .d (.b false), .d (.b false), .d (.i .i64 0), .d (.s []), .nilsl, .nilsl], .frz 9 1 0 (eStrs [[115, 104, 111, 119], [101, 113], [97, 100, 100]]), .arr 9 1 0 (eStrs [[120]])], _⟩ _
  obtain ⟨x3, hx3, h⟩ := lt_x h
  obtain ⟨x3_0, x3_1, x3_2, x3_3, ⟨x3_4_0, x3_4_1, x3_4_2⟩, x3_5, x3_6⟩ := x3
  have sx3 := w_l11Int x2_0
  rw [hx3] at sx3
  refine VO_r (QR_call (sx3)) ?_
  refine VO_k (Q_build TBd.h TZ.h rfl (by repeat constructor)) ?_
  refine VO_freeze 3 rfl rfl ?_
  refine VO_la1 (u := (.st [.s [109], .sl 1 (eStrs [[120]]), .st [.i .i64 x3_0, .s x3_1, .s x3_2, .i .i64 x3_3, .st [.i .i64 x3_4_0, .s x3_4_1, .sl 3 (eTypes x3_4_2)], .sl 9 (eExprs x3_5), .sl 11 (eArms x3_6)]])) ?_
  refine VO_k (Q_build TBd.h TZ.h rfl (by repeat constructor)) ?_
  refine goL ?_
  obtain ⟨x4, hx4, h⟩ := bnd_s h
  obtain ⟨x4_0, ⟨x4_1_0, x4_1_1, x4_1_2⟩⟩ := x4
  refine VO_cG [0] (w_l1Below (Tl1Cur.mk x2_1_0 x2_1_1 x2_1_2) 4 hx4) ?_
  rintro _ _ ⟨rfl, rfl⟩
  show VO _ _ _ _ ⟨(_, .d (.i .i64 x4_0)) :: _, [.box [.d (.sl 1 (eBytes x4_1_0)), .d (.i .i64 x4_1_1), .d (.i .i64 x4_1_2)], .box [.d (.s []), .nilsl, .d (.i .i64 0), .d (.s []), .nilsl, .nilsl, .d (.b false), .d (.b false), .d (.i .i64 0), .d (.s []), .nilsl, .nilsl], .frz 9 1 0 (eStrs [[115, 104, 111, 119], [101, 113], [97, 100, 100]]), .frz 9 1 0 (eStrs [[120]]), .arr 65 11 0 (eMethods [(TMethod.mk [109] [[120]] (TExpr.mk x3_0 x3_1 x3_2 x3_3 (TType.mk x3_4_0 x3_4_1 x3_4_2) x3_5 x3_6))]), .box [.d (.s x1_0), .nilsl, .d (.i .i64 0), .d (.s []), .nilsl, .nilsl, .d (.b false), .d (.b false), .d (.i .i64 0), .d (.s []), .nilsl, .sl 4 0]], _⟩ _
  refine goL ?_
  refine V_block ?_
  refine goL ?_
  refine V_cb (fun c5 => ?_) (fun c5 => ?_)
  · as_aux_lemma =>
    replace h := cnd_t c5 h
    refine goL ?_
    obtain ⟨x6, hx6, h⟩ := bnd_s h
    obtain ⟨x6_0, x6_1, x6_2⟩ := x6
    refine VO_r (QR_call (w_l4Int  hx6)) ?_
    refine goL ?_
    obtain ⟨x7, hx7, h⟩ := bnd_s h
    obtain ⟨x7_0, ⟨x7_1_0, x7_1_1, x7_1_2⟩⟩ := x7
    refine VO_cG [0] (w_l1Once (Tl1Cur.mk x4_1_0 x4_1_1 x4_1_2) 3 hx7) ?_
    rintro _ _ ⟨rfl, rfl⟩
    show VO _ _ _ _ ⟨(_, .d (.b x7_0)) :: _, [.box [.d (.sl 1 (eBytes x7_1_0)), .d (.i .i64 x7_1_1), .d (.i .i64 x7_1_2)], .box [.d (.s []), .nilsl, .d (.i .i64 0), .d (.s []), .nilsl, .nilsl, .d (.b false), .d (.b false), .d (.i .i64 0), .d (.s []), .nilsl, .nilsl], .frz 9 1 0 (eStrs [[115, 104, 111, 119], [101, 113], [97, 100, 100]]), .frz 9 1 0 (eStrs [[120]]), .arr 65 11 0 (eMethods [(TMethod.mk [109] [[120]] (TExpr.mk x3_0 x3_1 x3_2 x3_3 (TType.mk x3_4_0 x3_4_1 x3_4_2) x3_5 x3_6))]), .box [.d (.s x1_0), .nilsl, .d (.i .i64 x6_0), .d (.s x6_1), .d (.sl 3 (eTypes x6_2)), .nilsl, .d (.b false), .d (.b false), .d (.i .i64 0), .d (.s []), .nilsl, .sl 4 0]], _⟩ _
    refine goL ?_
    refine V_nild 3 5 10 rfl rfl (by repeat constructor) (by repeat constructor) ?_
    obtain ⟨b8, hb8, h⟩ := bnd_s h
    obtain ⟨b8_0, b8_1, b8_2, b8_3, b8_4, b8_5, b8_6⟩ := b8
    refine V_thenJ ⟨[(0, .ptr 0 0), (2, .ptr 1 0), (3, .ptr 5 0)], [.box [.d (.sl 1 (eBytes b8_0)), .d (.i .i64 b8_1), .d (.i .i64 b8_2)], .box [.d (.s []), .nilsl, .d (.i .i64 0), .d (.s []), .nilsl, .nilsl, .d (.b false), .d (.b false), .d (.i .i64 0), .d (.s []), .nilsl, .nilsl], .frz 9 1 0 (eStrs [[115, 104, 111, 119], [101, 113], [97, 100, 100]]), .frz 9 1 0 (eStrs [[120]]), .arr 65 11 0 (eMethods [(TMethod.mk [109] [[120]] (TExpr.mk x3_0 x3_1 x3_2 x3_3 (TType.mk x3_4_0 x3_4_1 x3_4_2) x3_5 x3_6))]), .box [.d (.s x1_0), .nilsl, .d (.i .i64 x6_0), .d (.s x6_1), .d (.sl 3 (eTypes x6_2)), .nilsl, .d (.b false), .d (.b b8_3), .d (.i .i64 b8_4), .d (.s b8_5), .d (.sl 3 (eTypes b8_6)), .sl 4 0]], Try.f17.ntmps⟩ ?_ ?_
    · as_aux_lemma =>
      refine V_cb (fun c9 => ?_) (fun c9 => ?_)
      · replace hb8 := cnd_t c9 hb8
        refine goL ?_
        obtain ⟨x10, hx10, hb8⟩ := bnd_s hb8
        obtain ⟨⟨x10_0_0, x10_0_1, x10_0_2⟩, ⟨x10_1_0, x10_1_1, x10_1_2⟩⟩ := x10
        refine VO_cG [0] (s_l4Ty 8 (Tl1Cur.mk x7_1_0 x7_1_1 x7_1_2) [] 1 hx10) ?_
        rintro _ _ ⟨rfl, rfl⟩
        show VO _ _ _ _ ⟨(_, .d (.st [.i .i64 x10_0_0, .s x10_0_1, .sl 3 (eTypes x10_0_2)])) :: _, [.box [.d (.sl 1 (eBytes x10_1_0)), .d (.i .i64 x10_1_1), .d (.i .i64 x10_1_2)], .box [.d (.s []), .nilsl, .d (.i .i64 0), .d (.s []), .nilsl, .nilsl, .d (.b false), .d (.b false), .d (.i .i64 0), .d (.s []), .nilsl, .nilsl], .frz 9 1 0 (eStrs [[115, 104, 111, 119], [101, 113], [97, 100, 100]]), .frz 9 1 0 (eStrs [[120]]), .arr 65 11 0 (eMethods [(TMethod.mk [109] [[120]] (TExpr.mk x3_0 x3_1 x3_2 x3_3 (TType.mk x3_4_0 x3_4_1 x3_4_2) x3_5 x3_6))]), .box [.d (.s x1_0), .nilsl, .d (.i .i64 x6_0), .d (.s x6_1), .d (.sl 3 (eTypes x6_2)), .nilsl, .d (.b false), .d (.b true), .d (.i .i64 0), .d (.s []), .d (.sl 3 []), .sl 4 0]], _⟩ _
        refine goL ?_
        cases hb8
        exact ⟨rfl, ⟨⟨rfl, rfl⟩, ⟨rfl, rfl⟩, ⟨rfl, rfl⟩, trivial⟩, ⟨_, rfl⟩, rfl⟩
      · replace hb8 := cnd_f c9 hb8
        refine V_skip ?_
        cases hb8
        exact ⟨rfl, ⟨⟨rfl, rfl⟩, ⟨rfl, rfl⟩, ⟨rfl, rfl⟩, trivial⟩, ⟨_, rfl⟩, rfl⟩
    refine goL ?_
    obtain ⟨x11, hx11, h⟩ := bnd_s h
    obtain ⟨x11_0, ⟨x11_1_0, x11_1_1, x11_1_2⟩⟩ := x11
    refine VO_cG [0] (w_l1Once (Tl1Cur.mk b8_0 b8_1 b8_2) 4 hx11) ?_
    rintro _ _ ⟨rfl, rfl⟩
    show VO _ _ _ _ ⟨(_, .d (.b x11_0)) :: _, [.box [.d (.sl 1 (eBytes x11_1_0)), .d (.i .i64 x11_1_1), .d (.i .i64 x11_1_2)], .box [.d (.s []), .nilsl, .d (.i .i64 0), .d (.s []), .nilsl, .nilsl, .d (.b false), .d (.b false), .d (.i .i64 0), .d (.s []), .nilsl, .nilsl], .frz 9 1 0 (eStrs [[115, 104, 111, 119], [101, 113], [97, 100, 100]]), .frz 9 1 0 (eStrs [[120]]), .arr 65 11 0 (eMethods [(TMethod.mk [109] [[120]] (TExpr.mk x3_0 x3_1 x3_2 x3_3 (TType.mk x3_4_0 x3_4_1 x3_4_2) x3_5 x3_6))]), .box [.d (.s x1_0), .nilsl, .d (.i .i64 x6_0), .d (.s x6_1), .d (.sl 3 (eTypes x6_2)), .nilsl, .d (.b false), .d (.b b8_3), .d (.i .i64 b8_4), .d (.s b8_5), .d (.sl 3 (eTypes b8_6)), .sl 4 0]], _⟩ _
    refine goL ?_
    obtain ⟨x12, hx12, h⟩ := bnd_s h
    obtain ⟨x12_0, ⟨x12_1_0, x12_1_1, x12_1_2⟩⟩ := x12
    refine VO_cG [0] (w_l1Below (Tl1Cur.mk x11_1_0 x11_1_1 x11_1_2) 12 hx12) ?_
    rintro _ _ ⟨rfl, rfl⟩
    show VO _ _ _ _ ⟨(_, .d (.i .i64 x12_0)) :: _, [.box [.d (.sl 1 (eBytes x12_1_0)), .d (.i .i64 x12_1_1), .d (.i .i64 x12_1_2)], .box [.d (.s []), .nilsl, .d (.i .i64 0), .d (.s []), .nilsl, .nilsl, .d (.b false), .d (.b false), .d (.i .i64 0), .d (.s []), .nilsl, .nilsl], .frz 9 1 0 (eStrs [[115, 104, 111, 119], [101, 113], [97, 100, 100]]), .frz 9 1 0 (eStrs [[120]]), .arr 65 11 0 (eMethods [(TMethod.mk [109] [[120]] (TExpr.mk x3_0 x3_1 x3_2 x3_3 (TType.mk x3_4_0 x3_4_1 x3_4_2) x3_5 x3_6))]), .box [.d (.s x1_0), .nilsl, .d (.i .i64 x6_0), .d (.s x6_1), .d (.sl 3 (eTypes x6_2)), .nilsl, .d (.b x11_0), .d (.b b8_3), .d (.i .i64 b8_4), .d (.s b8_5), .d (.sl 3 (eTypes b8_6)), .sl 4 0]], _⟩ _
    refine goL ?_
    refine V_block ?_
    refine goL ?_
    refine V_cb (fun c13 => ?_) (fun c13 => ?_)
    · as_aux_lemma =>
      replace h := cnd_t c13 h
      refine goL ?_
      obtain ⟨x14, hx14, h⟩ := bnd_s h
      obtain ⟨⟨x14_0_0, x14_0_1, x14_0_2⟩, ⟨x14_1_0, x14_1_1, x14_1_2⟩⟩ := x14
      refine VO_cG [0] (w_l4Free (Tl1Cur.mk x12_1_0 x12_1_1 x12_1_2) 2 hx14) ?_
      rintro _ _ ⟨rfl, rfl⟩
      show VO _ _ _ _ ⟨(_, .d (.st [.i .i64 x14_0_0, .s x14_0_1, .sl 3 (eTypes x14_0_2)])) :: _, [.box [.d (.sl 1 (eBytes x14_1_0)), .d (.i .i64 x14_1_1), .d (.i .i64 x14_1_2)], .box [.d (.s []), .nilsl, .d (.i .i64 0), .d (.s []), .nilsl, .nilsl, .d (.b false), .d (.b false), .d (.i .i64 0), .d (.s []), .nilsl, .nilsl], .frz 9 1 0 (eStrs [[115, 104, 111, 119], [101, 113], [97, 100, 100]]), .frz 9 1 0 (eStrs [[120]]), .arr 65 11 0 (eMethods [(TMethod.mk [109] [[120]] (TExpr.mk x3_0 x3_1 x3_2 x3_3 (TType.mk x3_4_0 x3_4_1 x3_4_2) x3_5 x3_6))]), .box [.d (.s x1_0), .nilsl, .d (.i .i64 x6_0), .d (.s x6_1), .d (.sl 3 (eTypes x6_2)), .nilsl, .d (.b x11_0), .d (.b b8_3), .d (.i .i64 b8_4), .d (.s b8_5), .d (.sl 3 (eTypes b8_6)), .sl 4 0]], _⟩ _
      refine goL ?_
      refine V_freeze 4 rfl rfl ?_
      refine V_ret ?_
      replace h := Option.some.inj h
      subst h
      exact R_rF [.d (.st [.s x1_0, .sl 1 [], .st [.i .i64 x14_0_0, .s x14_0_1, .sl 3 (eTypes x14_0_2)], .sl 4 [], .b x11_0, .b b8_3, .st [.i .i64 b8_4, .s b8_5, .sl 3 (eTypes b8_6)], .sl 11 (eMethods [(TMethod.mk [109] [[120]] (TExpr.mk x3_0 x3_1 x3_2 x3_3 (TType.mk x3_4_0 x3_4_1 x3_4_2) x3_5 x3_6))])])] [.box [.d (.sl 1 (eBytes x14_1_0)), .d (.i .i64 x14_1_1), .d (.i .i64 x14_1_2)]] ⟨rfl, rfl⟩
    · as_aux_lemma =>
      replace h := cnd_f c13 h
      refine goL ?_
      refine V_cb (fun c15 => ?_) (fun c15 => ?_)
      · as_aux_lemma =>
        replace h := cnd_t c15 h
        obtain ⟨x16, hx16, h⟩ := bnd_s h
        obtain ⟨x16_0, ⟨x16_1_0, x16_1_1, x16_1_2⟩⟩ := x16
        obtain ⟨g17, h⟩ := gd_s h
        refine V_drawTJ (P := Try.prog) Mix.h (.q 2 (.h 0 (.h 1 (.h 3 (.h 4 (.h 5 (.h 6 (.q 7 (.h 8 .nil .nil)) .nil) .nil) .nil) .nil) (.h 3 (.h 1 (.h 4 (.h 5 (.h 6 (.q 7 (.h 8 .nil .nil)) .nil) .nil) .nil) (.h 4 (.h 1 (.h 5 (.h 6 (.q 7 (.h 8 .nil .nil)) .nil) .nil) (.h 5 (.h 1 (.h 6 (.q 7 (.h 8 .nil .nil)) .nil) .nil) .nil)) .nil)) .nil)) (.h 3 (.h 0 (.h 1 (.h 4 (.h 5 (.h 6 (.q 7 (.h 8 .nil .nil)) .nil) .nil) .nil) (.h 4 (.h 1 (.h 5 (.h 6 (.q 7 (.h 8 .nil .nil)) .nil) .nil) (.h 5 (.h 1 (.h 6 (.q 7 (.h 8 .nil .nil)) .nil) .nil) .nil)) .nil)) (.h 4 (.h 0 (.h 1 (.h 5 (.h 6 (.q 7 (.h 8 .nil .nil)) .nil) .nil) (.h 5 (.h 1 (.h 6 (.q 7 (.h 8 .nil .nil)) .nil) .nil) .nil)) (.h 5 (.h 0 (.h 1 (.h 6 (.q 7 (.h 8 .nil .nil)) .nil) .nil) .nil) .nil)) .nil)) .nil))) ⟨[(2, .ptr 1 0), (3, .ptr 5 0)], [.box [.d (.sl 1 (eBytes x16_1_0)), .d (.i .i64 x16_1_1), .d (.i .i64 x16_1_2)], .box [.d (.s []), .nilsl, .d (.i .i64 0), .d (.s []), .nilsl, .nilsl, .d (.b false), .d (.b false), .d (.i .i64 0), .d (.s []), .nilsl, .nilsl], .frz 9 1 0 (eStrs [[115, 104, 111, 119], [101, 113], [97, 100, 100]]), .frz 9 1 0 (eStrs [[120]]), .arr 65 11 0 (eMethods [(TMethod.mk [109] [[120]] (TExpr.mk x3_0 x3_1 x3_2 x3_3 (TType.mk x3_4_0 x3_4_1 x3_4_2) x3_5 x3_6))]), .box [.d (.s x1_0), .sl 8 0, .d (.i .i64 x6_0), .d (.s x6_1), .d (.sl 3 (eTypes x6_2)), .nilsl, .d (.b x11_0), .d (.b b8_3), .d (.i .i64 b8_4), .d (.s b8_5), .d (.sl 3 (eTypes b8_6)), .sl 4 0], .frz 9 1 0 (eStrs [[97], [99]]), .dead 1, .own 9 1 0 (eStrs [x16_0])], Try.f17.ntmps⟩ (by kernel_rfl) ?_ ?_
        · as_aux_lemma =>
          refine goT ?_
          refine VT_h (VY_dh VY_e) ?_ ?_
          · as_aux_lemma =>
            refine VT_h (VY_dh VY_e) ?_ ?_
            · refine VT_h1 (VY_lb (T := 24) (us := eStrs [[97], [99]]) VY_e) ?_
              refine VT_h1 (VY_frz 6 rfl rfl (VY_cG (sv := .d (.s x16_0)) (L' := [.box [.d (.sl 1 (eBytes x16_1_0)), .d (.i .i64 x16_1_1), .d (.i .i64 x16_1_2)], .box [.d (.s []), .nilsl, .d (.i .i64 0), .d (.s []), .nilsl, .nilsl, .d (.b false), .d (.b false), .d (.i .i64 0), .d (.s []), .nilsl, .nilsl], .frz 9 1 0 (eStrs [[115, 104, 111, 119], [101, 113], [97, 100, 100]]), .frz 9 1 0 (eStrs [[120]]), .arr 65 11 0 (eMethods [(TMethod.mk [109] [[120]] (TExpr.mk x3_0 x3_1 x3_2 x3_3 (TType.mk x3_4_0 x3_4_1 x3_4_2) x3_5 x3_6))]), .box [.d (.s x1_0), .nilsl, .d (.i .i64 x6_0), .d (.s x6_1), .d (.sl 3 (eTypes x6_2)), .nilsl, .d (.b x11_0), .d (.b b8_3), .d (.i .i64 b8_4), .d (.s b8_5), .d (.sl 3 (eTypes b8_6)), .sl 4 0], .frz 9 1 0 (eStrs [[97], [99]])]) [0] (w_l1Pick (Tl1Cur.mk x12_1_0 x12_1_1 x12_1_2) [[97], [99]] hx16) VY_e)) ?_
              refine VT_h1 (VY_lb (T := 24) (us := eStrs [x16_0]) VY_e) ?_
              refine VT_h1 (VY_ao 7 rfl rfl (by first | exact eStrs_noSl _ | exact eInts_noSl _) (VY_ap0 (T := 24) g17 VY_e)) ?_
              refine goT ?_
              refine VT_nil ?_
              exact R_pk 1 [0, 1, 2, 3, 4, 5, 6, 7, 8]
            refine VT_h1 (VY_lb (T := 24) (us := eStrs [[97], [99]]) VY_e) ?_
            refine VT_h (VY_dh VY_e) ?_ ?_
            · refine VT_h1 (VY_frz 6 rfl rfl (VY_cG (sv := .d (.s x16_0)) (L' := [.box [.d (.sl 1 (eBytes x16_1_0)), .d (.i .i64 x16_1_1), .d (.i .i64 x16_1_2)], .box [.d (.s []), .nilsl, .d (.i .i64 0), .d (.s []), .nilsl, .nilsl, .d (.b false), .d (.b false), .d (.i .i64 0), .d (.s []), .nilsl, .nilsl], .frz 9 1 0 (eStrs [[115, 104, 111, 119], [101, 113], [97, 100, 100]]), .frz 9 1 0 (eStrs [[120]]), .arr 65 11 0 (eMethods [(TMethod.mk [109] [[120]] (TExpr.mk x3_0 x3_1 x3_2 x3_3 (TType.mk x3_4_0 x3_4_1 x3_4_2) x3_5 x3_6))]), .box [.d (.s x1_0), .nilsl, .d (.i .i64 x6_0), .d (.s x6_1), .d (.sl 3 (eTypes x6_2)), .nilsl, .d (.b x11_0), .d (.b b8_3), .d (.i .i64 b8_4), .d (.s b8_5), .d (.sl 3 (eTypes b8_6)), .sl 4 0], .frz 9 1 0 (eStrs [[97], [99]])]) [0] (w_l1Pick (Tl1Cur.mk x12_1_0 x12_1_1 x12_1_2) [[97], [99]] hx16) VY_e)) ?_
              refine VT_h1 (VY_lb (T := 24) (us := eStrs [x16_0]) VY_e) ?_
              refine VT_h1 (VY_ao 7 rfl rfl (by first | exact eStrs_noSl _ | exact eInts_noSl _) (VY_ap0 (T := 24) g17 VY_e)) ?_
              refine goT ?_
              refine VT_nil ?_
              exact R_pk 1 [0, 1, 2, 3, 4, 5, 6, 7, 8]
            refine VT_h1 (VY_frz 6 rfl rfl (VY_cG (sv := .d (.s x16_0)) (L' := [.box [.d (.sl 1 (eBytes x16_1_0)), .d (.i .i64 x16_1_1), .d (.i .i64 x16_1_2)], .box [.d (.s []), .nilsl, .d (.i .i64 0), .d (.s []), .nilsl, .nilsl, .d (.b false), .d (.b false), .d (.i .i64 0), .d (.s []), .nilsl, .nilsl], .frz 9 1 0 (eStrs [[115, 104, 111, 119], [101, 113], [97, 100, 100]]), .frz 9 1 0 (eStrs [[120]]), .arr 65 11 0 (eMethods [(TMethod.mk [109] [[120]] (TExpr.mk x3_0 x3_1 x3_2 x3_3 (TType.mk x3_4_0 x3_4_1 x3_4_2) x3_5 x3_6))]), .box [.d (.s x1_0), .nilsl, .d (.i .i64 x6_0), .d (.s x6_1), .d (.sl 3 (eTypes x6_2)), .nilsl, .d (.b x11_0), .d (.b b8_3), .d (.i .i64 b8_4), .d (.s b8_5), .d (.sl 3 (eTypes b8_6)), .sl 4 0], .frz 9 1 0 (eStrs [[97], [99]])]) [0] (w_l1Pick (Tl1Cur.mk x12_1_0 x12_1_1 x12_1_2) [[97], [99]] hx16) VY_e)) ?_
            refine VT_h (VY_dh VY_e) ?_ ?_
            · refine VT_h1 (VY_lb (T := 24) (us := eStrs [x16_0]) VY_e) ?_
              refine VT_h1 (VY_ao 7 rfl rfl (by first | exact eStrs_noSl _ | exact eInts_noSl _) (VY_ap0 (T := 24) g17 VY_e)) ?_
              refine goT ?_
              refine VT_nil ?_
              exact R_pk 1 [0, 1, 2, 3, 4, 5, 6, 7, 8]
            refine VT_h1 (VY_lb (T := 24) (us := eStrs [x16_0]) VY_e) ?_
            refine VT_h1 (VY_dh VY_e) ?_
            refine VT_h1 (VY_ao 7 rfl rfl (by first | exact eStrs_noSl _ | exact eInts_noSl _) (VY_ap0 (T := 24) g17 VY_e)) ?_
            refine goT ?_
            refine VT_nil ?_
            exact R_pk 1 [0, 1, 2, 3, 4, 5, 6, 7, 8]
          refine VT_h1 (VY_lb (T := 24) (us := eStrs [[97], [99]]) VY_e) ?_
          refine VT_h (VY_dh VY_e) ?_ ?_
          · as_aux_lemma =>
            refine VT_h (VY_dh VY_e) ?_ ?_
            · refine VT_h1 (VY_frz 6 rfl rfl (VY_cG (sv := .d (.s x16_0)) (L' := [.box [.d (.sl 1 (eBytes x16_1_0)), .d (.i .i64 x16_1_1), .d (.i .i64 x16_1_2)], .box [.d (.s []), .nilsl, .d (.i .i64 0), .d (.s []), .nilsl, .nilsl, .d (.b false), .d (.b false), .d (.i .i64 0), .d (.s []), .nilsl, .nilsl], .frz 9 1 0 (eStrs [[115, 104, 111, 119], [101, 113], [97, 100, 100]]), .frz 9 1 0 (eStrs [[120]]), .arr 65 11 0 (eMethods [(TMethod.mk [109] [[120]] (TExpr.mk x3_0 x3_1 x3_2 x3_3 (TType.mk x3_4_0 x3_4_1 x3_4_2) x3_5 x3_6))]), .box [.d (.s x1_0), .nilsl, .d (.i .i64 x6_0), .d (.s x6_1), .d (.sl 3 (eTypes x6_2)), .nilsl, .d (.b x11_0), .d (.b b8_3), .d (.i .i64 b8_4), .d (.s b8_5), .d (.sl 3 (eTypes b8_6)), .sl 4 0], .frz 9 1 0 (eStrs [[97], [99]])]) [0] (w_l1Pick (Tl1Cur.mk x12_1_0 x12_1_1 x12_1_2) [[97], [99]] hx16) VY_e)) ?_
              refine VT_h1 (VY_lb (T := 24) (us := eStrs [x16_0]) VY_e) ?_
              refine VT_h1 (VY_ao 7 rfl rfl (by first | exact eStrs_noSl _ | exact eInts_noSl _) (VY_ap0 (T := 24) g17 VY_e)) ?_
              refine goT ?_
              refine VT_nil ?_
              exact R_pk 1 [0, 1, 2, 3, 4, 5, 6, 7, 8]
            refine VT_h1 (VY_frz 6 rfl rfl (VY_cG (sv := .d (.s x16_0)) (L' := [.box [.d (.sl 1 (eBytes x16_1_0)), .d (.i .i64 x16_1_1), .d (.i .i64 x16_1_2)], .box [.d (.s []), .nilsl, .d (.i .i64 0), .d (.s []), .nilsl, .nilsl, .d (.b false), .d (.b false), .d (.i .i64 0), .d (.s []), .nilsl, .nilsl], .frz 9 1 0 (eStrs [[115, 104, 111, 119], [101, 113], [97, 100, 100]]), .frz 9 1 0 (eStrs [[120]]), .arr 65 11 0 (eMethods [(TMethod.mk [109] [[120]] (TExpr.mk x3_0 x3_1 x3_2 x3_3 (TType.mk x3_4_0 x3_4_1 x3_4_2) x3_5 x3_6))]), .box [.d (.s x1_0), .nilsl, .d (.i .i64 x6_0), .d (.s x6_1), .d (.sl 3 (eTypes x6_2)), .nilsl, .d (.b x11_0), .d (.b b8_3), .d (.i .i64 b8_4), .d (.s b8_5), .d (.sl 3 (eTypes b8_6)), .sl 4 0], .frz 9 1 0 (eStrs [[97], [99]])]) [0] (w_l1Pick (Tl1Cur.mk x12_1_0 x12_1_1 x12_1_2) [[97], [99]] hx16) VY_e)) ?_
            refine VT_h (VY_dh VY_e) ?_ ?_
            · refine VT_h1 (VY_lb (T := 24) (us := eStrs [x16_0]) VY_e) ?_
              refine VT_h1 (VY_ao 7 rfl rfl (by first | exact eStrs_noSl _ | exact eInts_noSl _) (VY_ap0 (T := 24) g17 VY_e)) ?_
              refine goT ?_
              refine VT_nil ?_
              exact R_pk 1 [0, 1, 2, 3, 4, 5, 6, 7, 8]
            refine VT_h1 (VY_lb (T := 24) (us := eStrs [x16_0]) VY_e) ?_
            refine VT_h1 (VY_dh VY_e) ?_
            refine VT_h1 (VY_ao 7 rfl rfl (by first | exact eStrs_noSl _ | exact eInts_noSl _) (VY_ap0 (T := 24) g17 VY_e)) ?_
            refine goT ?_
            refine VT_nil ?_
            exact R_pk 1 [0, 1, 2, 3, 4, 5, 6, 7, 8]
          refine VT_h1 (VY_frz 6 rfl rfl (VY_cG (sv := .d (.s x16_0)) (L' := [.box [.d (.sl 1 (eBytes x16_1_0)), .d (.i .i64 x16_1_1), .d (.i .i64 x16_1_2)], .box [.d (.s []), .nilsl, .d (.i .i64 0), .d (.s []), .nilsl, .nilsl, .d (.b false), .d (.b false), .d (.i .i64 0), .d (.s []), .nilsl, .nilsl], .frz 9 1 0 (eStrs [[115, 104, 111, 119], [101, 113], [97, 100, 100]]), .frz 9 1 0 (eStrs [[120]]), .arr 65 11 0 (eMethods [(TMethod.mk [109] [[120]] (TExpr.mk x3_0 x3_1 x3_2 x3_3 (TType.mk x3_4_0 x3_4_1 x3_4_2) x3_5 x3_6))]), .box [.d (.s x1_0), .nilsl, .d (.i .i64 x6_0), .d (.s x6_1), .d (.sl 3 (eTypes x6_2)), .nilsl, .d (.b x11_0), .d (.b b8_3), .d (.i .i64 b8_4), .d (.s b8_5), .d (.sl 3 (eTypes b8_6)), .sl 4 0], .frz 9 1 0 (eStrs [[97], [99]])]) [0] (w_l1Pick (Tl1Cur.mk x12_1_0 x12_1_1 x12_1_2) [[97], [99]] hx16) VY_e)) ?_
          refine VT_h (VY_dh VY_e) ?_ ?_
          · as_aux_lemma =>
            refine VT_h (VY_dh VY_e) ?_ ?_
            · refine VT_h1 (VY_lb (T := 24) (us := eStrs [x16_0]) VY_e) ?_
              refine VT_h1 (VY_ao 7 rfl rfl (by first | exact eStrs_noSl _ | exact eInts_noSl _) (VY_ap0 (T := 24) g17 VY_e)) ?_
              refine goT ?_
              refine VT_nil ?_
              exact R_pk 1 [0, 1, 2, 3, 4, 5, 6, 7, 8]
            refine VT_h1 (VY_lb (T := 24) (us := eStrs [x16_0]) VY_e) ?_
            refine VT_h1 (VY_dh VY_e) ?_
            refine VT_h1 (VY_ao 7 rfl rfl (by first | exact eStrs_noSl _ | exact eInts_noSl _) (VY_ap0 (T := 24) g17 VY_e)) ?_
            refine goT ?_
            refine VT_nil ?_
            exact R_pk 1 [0, 1, 2, 3, 4, 5, 6, 7, 8]
          refine VT_h1 (VY_lb (T := 24) (us := eStrs [x16_0]) VY_e) ?_
          refine VT_h1 (VY_dh VY_e) ?_
          refine VT_h1 (VY_dh VY_e) ?_
          refine VT_h1 (VY_ao 7 rfl rfl (by first | exact eStrs_noSl _ | exact eInts_noSl _) (VY_ap0 (T := 24) g17 VY_e)) ?_
          refine goT ?_
          refine VT_nil ?_
          exact R_pk 1 [0, 1, 2, 3, 4, 5, 6, 7, 8]
        refine goL ?_
        refine V_freezeO 8 rfl rfl ?_
        refine V_freeze 4 rfl rfl ?_
        refine V_ret ?_
        replace h := Option.some.inj h
        subst h
        exact R_rF [.d (.st [.s x1_0, .sl 1 (eStrs [x16_0]), .st [.i .i64 x6_0, .s x6_1, .sl 3 (eTypes x6_2)], .sl 4 [], .b x11_0, .b b8_3, .st [.i .i64 b8_4, .s b8_5, .sl 3 (eTypes b8_6)], .sl 11 (eMethods [(TMethod.mk [109] [[120]] (TExpr.mk x3_0 x3_1 x3_2 x3_3 (TType.mk x3_4_0 x3_4_1 x3_4_2) x3_5 x3_6))])])] [.box [.d (.sl 1 (eBytes x16_1_0)), .d (.i .i64 x16_1_1), .d (.i .i64 x16_1_2)]] ⟨rfl, rfl⟩
      · as_aux_lemma =>
        replace h := cnd_f c15 h
        refine goL ?_
        refine V_cb (fun c18 => ?_) (fun c18 => ?_)
        · as_aux_lemma =>
          replace h := cnd_t c18 h
          refine V_adoptA 69 4 5 5 rfl rfl (by repeat constructor) (by repeat constructor) (by repeat constructor) (by repeat constructor) ?_
          obtain ⟨x19, hx19, h⟩ := bnd_s h
          obtain ⟨⟨x19_0_0, x19_0_1, x19_0_2⟩, ⟨x19_1_0, x19_1_1, x19_1_2⟩⟩ := x19
          obtain ⟨g20, h⟩ := gd_s h
          refine V_drawTJ (P := Try.prog) Mix.h (.q 2 (.h 0 (.h 1 (.h 3 (.q 4 (.h 5 (.h 6 (.q 7 (.h 8 .nil .nil)) .nil) .nil)) .nil) (.h 3 (.q 4 (.h 1 (.h 5 (.h 6 (.q 7 (.h 8 .nil .nil)) .nil) .nil) (.h 5 (.h 1 (.h 6 (.q 7 (.h 8 .nil .nil)) .nil) .nil) .nil))) .nil)) (.h 3 (.q 4 (.h 0 (.h 1 (.h 5 (.h 6 (.q 7 (.h 8 .nil .nil)) .nil) .nil) (.h 5 (.h 1 (.h 6 (.q 7 (.h 8 .nil .nil)) .nil) .nil) .nil)) (.h 5 (.h 0 (.h 1 (.h 6 (.q 7 (.h 8 .nil .nil)) .nil) .nil) .nil) .nil))) .nil))) ⟨[(2, .ptr 1 0), (3, .ptr 5 0)], [.box [.d (.sl 1 (eBytes x19_1_0)), .d (.i .i64 x19_1_1), .d (.i .i64 x19_1_2)], .box [.d (.s []), .nilsl, .d (.i .i64 0), .d (.s []), .nilsl, .nilsl, .d (.b false), .d (.b false), .d (.i .i64 0), .d (.s []), .nilsl, .nilsl], .frz 9 1 0 (eStrs [[115, 104, 111, 119], [101, 113], [97, 100, 100]]), .frz 9 1 0 (eStrs [[120]]), .arr 65 11 0 (eMethods [(TMethod.mk [109] [[120]] (TExpr.mk x3_0 x3_1 x3_2 x3_3 (TType.mk x3_4_0 x3_4_1 x3_4_2) x3_5 x3_6))]), .box [.d (.s x1_0), .nilsl, .d (.i .i64 x6_0), .d (.s x6_1), .d (.sl 3 (eTypes x6_2)), .sl 6 (0 + 1), .d (.b x11_0), .d (.b b8_3), .d (.i .i64 b8_4), .d (.s b8_5), .d (.sl 3 (eTypes b8_6)), .sl 4 0], .arr 69 4 (0 + 1) (eBounds ([] ++ [(TBound.mk [101, 113] (TType.mk x19_0_0 x19_0_1 x19_0_2))])), .arr 69 4 0 (eBounds [(TBound.mk [101, 113] (TType.mk x19_0_0 x19_0_1 x19_0_2))])], Try.f17.ntmps⟩ (by kernel_rfl) ?_ ?_
          · as_aux_lemma =>
            refine goT ?_
            refine VT_h (VY_dh VY_e) ?_ ?_
            · as_aux_lemma =>
              refine VT_h (VY_dh VY_e) ?_ ?_
              · refine VT_h1 (VY_cG (sv := .d (.st [.i .i64 x19_0_0, .s x19_0_1, .sl 3 (eTypes x19_0_2)])) (L' := [.box [.d (.sl 1 (eBytes x19_1_0)), .d (.i .i64 x19_1_1), .d (.i .i64 x19_1_2)], .box [.d (.s []), .nilsl, .d (.i .i64 0), .d (.s []), .nilsl, .nilsl, .d (.b false), .d (.b false), .d (.i .i64 0), .d (.s []), .nilsl, .nilsl], .frz 9 1 0 (eStrs [[115, 104, 111, 119], [101, 113], [97, 100, 100]]), .frz 9 1 0 (eStrs [[120]]), .arr 65 11 0 (eMethods [(TMethod.mk [109] [[120]] (TExpr.mk x3_0 x3_1 x3_2 x3_3 (TType.mk x3_4_0 x3_4_1 x3_4_2) x3_5 x3_6))]), .box [.d (.s x1_0), .nilsl, .d (.i .i64 x6_0), .d (.s x6_1), .d (.sl 3 (eTypes x6_2)), .sl 6 0, .d (.b x11_0), .d (.b b8_3), .d (.i .i64 b8_4), .d (.s b8_5), .d (.sl 3 (eTypes b8_6)), .sl 4 0], .arr 69 4 0 []]) [0] (w_l4Free (Tl1Cur.mk x12_1_0 x12_1_1 x12_1_2) 1 hx19) VY_e) ?_
                refine goT ?_
                refine VT_h1 (VY_lb (T := 28) (us := eBounds [(TBound.mk [101, 113] (TType.mk x19_0_0 x19_0_1 x19_0_2))]) VY_e) ?_
                refine VT_h1 (VY_apa (T := 28) g20 VY_e) ?_
                refine goT ?_
                refine VT_nil ?_
                exact R_pk 1 [0, 1, 2, 3, 4, 5, 6, 7]
              refine VT_h1 (VY_cG (sv := .d (.st [.i .i64 x19_0_0, .s x19_0_1, .sl 3 (eTypes x19_0_2)])) (L' := [.box [.d (.sl 1 (eBytes x19_1_0)), .d (.i .i64 x19_1_1), .d (.i .i64 x19_1_2)], .box [.d (.s []), .nilsl, .d (.i .i64 0), .d (.s []), .nilsl, .nilsl, .d (.b false), .d (.b false), .d (.i .i64 0), .d (.s []), .nilsl, .nilsl], .frz 9 1 0 (eStrs [[115, 104, 111, 119], [101, 113], [97, 100, 100]]), .frz 9 1 0 (eStrs [[120]]), .arr 65 11 0 (eMethods [(TMethod.mk [109] [[120]] (TExpr.mk x3_0 x3_1 x3_2 x3_3 (TType.mk x3_4_0 x3_4_1 x3_4_2) x3_5 x3_6))]), .box [.d (.s x1_0), .nilsl, .d (.i .i64 x6_0), .d (.s x6_1), .d (.sl 3 (eTypes x6_2)), .sl 6 0, .d (.b x11_0), .d (.b b8_3), .d (.i .i64 b8_4), .d (.s b8_5), .d (.sl 3 (eTypes b8_6)), .sl 4 0], .arr 69 4 0 []]) [0] (w_l4Free (Tl1Cur.mk x12_1_0 x12_1_1 x12_1_2) 1 hx19) VY_e) ?_
              refine goT ?_
              refine VT_h (VY_dh VY_e) ?_ ?_
              · refine VT_h1 (VY_lb (T := 28) (us := eBounds [(TBound.mk [101, 113] (TType.mk x19_0_0 x19_0_1 x19_0_2))]) VY_e) ?_
                refine VT_h1 (VY_apa (T := 28) g20 VY_e) ?_
                refine goT ?_
                refine VT_nil ?_
                exact R_pk 1 [0, 1, 2, 3, 4, 5, 6, 7]
              refine VT_h1 (VY_lb (T := 28) (us := eBounds [(TBound.mk [101, 113] (TType.mk x19_0_0 x19_0_1 x19_0_2))]) VY_e) ?_
              refine VT_h1 (VY_dh VY_e) ?_
              refine VT_h1 (VY_apa (T := 28) g20 VY_e) ?_
              refine goT ?_
              refine VT_nil ?_
              exact R_pk 1 [0, 1, 2, 3, 4, 5, 6, 7]
            refine VT_h1 (VY_cG (sv := .d (.st [.i .i64 x19_0_0, .s x19_0_1, .sl 3 (eTypes x19_0_2)])) (L' := [.box [.d (.sl 1 (eBytes x19_1_0)), .d (.i .i64 x19_1_1), .d (.i .i64 x19_1_2)], .box [.d (.s []), .nilsl, .d (.i .i64 0), .d (.s []), .nilsl, .nilsl, .d (.b false), .d (.b false), .d (.i .i64 0), .d (.s []), .nilsl, .nilsl], .frz 9 1 0 (eStrs [[115, 104, 111, 119], [101, 113], [97, 100, 100]]), .frz 9 1 0 (eStrs [[120]]), .arr 65 11 0 (eMethods [(TMethod.mk [109] [[120]] (TExpr.mk x3_0 x3_1 x3_2 x3_3 (TType.mk x3_4_0 x3_4_1 x3_4_2) x3_5 x3_6))]), .box [.d (.s x1_0), .nilsl, .d (.i .i64 x6_0), .d (.s x6_1), .d (.sl 3 (eTypes x6_2)), .sl 6 0, .d (.b x11_0), .d (.b b8_3), .d (.i .i64 b8_4), .d (.s b8_5), .d (.sl 3 (eTypes b8_6)), .sl 4 0], .arr 69 4 0 []]) [0] (w_l4Free (Tl1Cur.mk x12_1_0 x12_1_1 x12_1_2) 1 hx19) VY_e) ?_
            refine goT ?_
            refine VT_h (VY_dh VY_e) ?_ ?_
            · as_aux_lemma =>
              refine VT_h (VY_dh VY_e) ?_ ?_
              · refine VT_h1 (VY_lb (T := 28) (us := eBounds [(TBound.mk [101, 113] (TType.mk x19_0_0 x19_0_1 x19_0_2))]) VY_e) ?_
                refine VT_h1 (VY_apa (T := 28) g20 VY_e) ?_
                refine goT ?_
                refine VT_nil ?_
                exact R_pk 1 [0, 1, 2, 3, 4, 5, 6, 7]
              refine VT_h1 (VY_lb (T := 28) (us := eBounds [(TBound.mk [101, 113] (TType.mk x19_0_0 x19_0_1 x19_0_2))]) VY_e) ?_
              refine VT_h1 (VY_dh VY_e) ?_
              refine VT_h1 (VY_apa (T := 28) g20 VY_e) ?_
              refine goT ?_
              refine VT_nil ?_
              exact R_pk 1 [0, 1, 2, 3, 4, 5, 6, 7]
            refine VT_h1 (VY_lb (T := 28) (us := eBounds [(TBound.mk [101, 113] (TType.mk x19_0_0 x19_0_1 x19_0_2))]) VY_e) ?_
            refine VT_h1 (VY_dh VY_e) ?_
            refine VT_h1 (VY_dh VY_e) ?_
            refine VT_h1 (VY_apa (T := 28) g20 VY_e) ?_
            refine goT ?_
            refine VT_nil ?_
            exact R_pk 1 [0, 1, 2, 3, 4, 5, 6, 7]
          refine goL ?_
          refine V_freeze 6 rfl rfl ?_
          refine V_freeze 4 rfl rfl ?_
          refine V_ret ?_
          replace h := Option.some.inj h
          subst h
          exact R_rF [.d (.st [.s x1_0, .sl 1 [], .st [.i .i64 x6_0, .s x6_1, .sl 3 (eTypes x6_2)], .sl 4 (eBounds ([] ++ [(TBound.mk [101, 113] (TType.mk x19_0_0 x19_0_1 x19_0_2))])), .b x11_0, .b b8_3, .st [.i .i64 b8_4, .s b8_5, .sl 3 (eTypes b8_6)], .sl 11 (eMethods [(TMethod.mk [109] [[120]] (TExpr.mk x3_0 x3_1 x3_2 x3_3 (TType.mk x3_4_0 x3_4_1 x3_4_2) x3_5 x3_6))])])] [.box [.d (.sl 1 (eBytes x19_1_0)), .d (.i .i64 x19_1_1), .d (.i .i64 x19_1_2)]] ⟨rfl, rfl⟩
        · as_aux_lemma =>
          replace h := cnd_f c18 h
          refine goL ?_
          refine V_cb (fun c21 => ?_) (fun c21 => ?_)
          · as_aux_lemma =>
            replace h := cnd_t c21 h
            obtain ⟨x22, hx22, h⟩ := bnd_s h
            obtain ⟨⟨x22_0_0, x22_0_1, x22_0_2, x22_0_3, ⟨x22_0_4_0, x22_0_4_1, x22_0_4_2⟩, x22_0_5, x22_0_6⟩, ⟨x22_1_0, x22_1_1, x22_1_2⟩⟩ := x22
            obtain ⟨x23, hx23, h⟩ := bnd_s h
            obtain ⟨hx230, hx23⟩ := at_s hx23
            obtain ⟨x23_0, x23_1, ⟨x23_2_0, x23_2_1, x23_2_2, x23_2_3, ⟨x23_2_4_0, x23_2_4_1, x23_2_4_2⟩, x23_2_5, x23_2_6⟩⟩ := x23
            refine V_drawTJ (P := Try.prog) Mix.h (.q 2 (.h 0 (.h 1 (.h 3 (.h 4 (.h 5 (.h 6 (.h 7 .nil .nil) .nil) .nil) .nil) .nil) (.h 3 (.h 1 (.h 4 (.h 5 (.h 6 (.h 7 .nil .nil) .nil) .nil) .nil) (.h 4 (.h 1 (.h 5 (.h 6 (.h 7 .nil .nil) .nil) .nil) .nil) .nil)) .nil)) (.h 3 (.h 0 (.h 1 (.h 4 (.h 5 (.h 6 (.h 7 .nil .nil) .nil) .nil) .nil) (.h 4 (.h 1 (.h 5 (.h 6 (.h 7 .nil .nil) .nil) .nil) .nil) .nil)) (.h 4 (.h 0 (.h 1 (.h 5 (.h 6 (.h 7 .nil .nil) .nil) .nil) .nil) .nil) .nil)) .nil))) ⟨[(2, .ptr 1 0), (3, .ptr 5 0)], [.box [.d (.sl 1 (eBytes x22_1_0)), .d (.i .i64 x22_1_1), .d (.i .i64 x22_1_2)], .box [.d (.s []), .nilsl, .d (.i .i64 0), .d (.s []), .nilsl, .nilsl, .d (.b false), .d (.b false), .d (.i .i64 0), .d (.s []), .nilsl, .nilsl], .frz 9 1 0 (eStrs [[115, 104, 111, 119], [101, 113], [97, 100, 100]]), .frz 9 1 0 (eStrs [[120]]), .arr 65 11 0 (eMethods ([(TMethod.mk [109] [[120]] (TExpr.mk x3_0 x3_1 x3_2 x3_3 (TType.mk x3_4_0 x3_4_1 x3_4_2) x3_5 x3_6))].set 0 (TMethod.mk x23_0 x23_1 (TExpr.mk x22_0_0 x22_0_1 x22_0_2 x22_0_3 (TType.mk x22_0_4_0 x22_0_4_1 x22_0_4_2) x22_0_5 x22_0_6)))), .box [.d (.s x1_0), .nilsl, .d (.i .i64 x6_0), .d (.s x6_1), .d (.sl 3 (eTypes x6_2)), .nilsl, .d (.b x11_0), .d (.b b8_3), .d (.i .i64 b8_4), .d (.s b8_5), .d (.sl 3 (eTypes b8_6)), .sl 4 0], .frz 9 1 0 (eStrs [[120], [121]])], Try.f17.ntmps⟩ (by kernel_rfl) ?_ ?_
            · as_aux_lemma =>
              refine goT ?_
              refine VT_h (VY_dh VY_e) ?_ ?_
              · as_aux_lemma =>
                refine VT_h (VY_dh VY_e) ?_ ?_
                · refine VT_h1 (VY_lb (T := 24) (us := eStrs [[120], [121]]) VY_e) ?_
                  refine VT_h1 (VY_frz 6 rfl rfl (VY_cG (sv := .d (.st [.i .i64 x22_0_0, .s x22_0_1, .s x22_0_2, .i .i64 x22_0_3, .st [.i .i64 x22_0_4_0, .s x22_0_4_1, .sl 3 (eTypes x22_0_4_2)], .sl 9 (eExprs x22_0_5), .sl 11 (eArms x22_0_6)])) (L' := [.box [.d (.sl 1 (eBytes x22_1_0)), .d (.i .i64 x22_1_1), .d (.i .i64 x22_1_2)], .box [.d (.s []), .nilsl, .d (.i .i64 0), .d (.s []), .nilsl, .nilsl, .d (.b false), .d (.b false), .d (.i .i64 0), .d (.s []), .nilsl, .nilsl], .frz 9 1 0 (eStrs [[115, 104, 111, 119], [101, 113], [97, 100, 100]]), .frz 9 1 0 (eStrs [[120]]), .arr 65 11 0 (eMethods [(TMethod.mk [109] [[120]] (TExpr.mk x3_0 x3_1 x3_2 x3_3 (TType.mk x3_4_0 x3_4_1 x3_4_2) x3_5 x3_6))]), .box [.d (.s x1_0), .nilsl, .d (.i .i64 x6_0), .d (.s x6_1), .d (.sl 3 (eTypes x6_2)), .nilsl, .d (.b x11_0), .d (.b b8_3), .d (.i .i64 b8_4), .d (.s b8_5), .d (.sl 3 (eTypes b8_6)), .sl 4 0], .frz 9 1 0 (eStrs [[120], [121]])]) [0] (s_l11Expr 8 (Tl1Cur.mk x12_1_0 x12_1_1 x12_1_2) [[120], [121]] 2 hx22) VY_e)) ?_
                  refine VT_h1 (VY_ixa 0 (List.getElem?_eq_some_iff.1 hx23).1 VY_e) ?_
                  refine VT_h1 (VY_fla VY_e) ?_
                  refine VT_h1 (VY_stm [(.s x23_0), (.sl 1 (eStrs x23_1))] [] (.st [.i .i64 x23_2_0, .s x23_2_1, .s x23_2_2, .i .i64 x23_2_3, .st [.i .i64 x23_2_4_0, .s x23_2_4_1, .sl 3 (eTypes x23_2_4_2)], .sl 9 (eExprs x23_2_5), .sl 11 (eArms x23_2_6)]) (.st [.i .i64 x22_0_0, .s x22_0_1, .s x22_0_2, .i .i64 x22_0_3, .st [.i .i64 x22_0_4_0, .s x22_0_4_1, .sl 3 (eTypes x22_0_4_2)], .sl 9 (eExprs x22_0_5), .sl 11 (eArms x22_0_6)]) (TMethod.mk x23_0 x23_1 (TExpr.mk x23_2_0 x23_2_1 x23_2_2 x23_2_3 (TType.mk x23_2_4_0 x23_2_4_1 x23_2_4_2) x23_2_5 x23_2_6)) (TMethod.mk x23_0 x23_1 (TExpr.mk x22_0_0 x22_0_1 x22_0_2 x22_0_3 (TType.mk x22_0_4_0 x22_0_4_1 x22_0_4_2) x22_0_5 x22_0_6)) hx23 VY_e) ?_
                  refine VT_nil ?_
                  exact R_pk 1 [0, 1, 2, 3, 4, 5, 6]
                refine VT_h1 (VY_lb (T := 24) (us := eStrs [[120], [121]]) VY_e) ?_
                refine VT_h (VY_dh VY_e) ?_ ?_
                · refine VT_h1 (VY_frz 6 rfl rfl (VY_cG (sv := .d (.st [.i .i64 x22_0_0, .s x22_0_1, .s x22_0_2, .i .i64 x22_0_3, .st [.i .i64 x22_0_4_0, .s x22_0_4_1, .sl 3 (eTypes x22_0_4_2)], .sl 9 (eExprs x22_0_5), .sl 11 (eArms x22_0_6)])) (L' := [.box [.d (.sl 1 (eBytes x22_1_0)), .d (.i .i64 x22_1_1), .d (.i .i64 x22_1_2)], .box [.d (.s []), .nilsl, .d (.i .i64 0), .d (.s []), .nilsl, .nilsl, .d (.b false), .d (.b false), .d (.i .i64 0), .d (.s []), .nilsl, .nilsl], .frz 9 1 0 (eStrs [[115, 104, 111, 119], [101, 113], [97, 100, 100]]), .frz 9 1 0 (eStrs [[120]]), .arr 65 11 0 (eMethods [(TMethod.mk [109] [[120]] (TExpr.mk x3_0 x3_1 x3_2 x3_3 (TType.mk x3_4_0 x3_4_1 x3_4_2) x3_5 x3_6))]), .box [.d (.s x1_0), .nilsl, .d (.i .i64 x6_0), .d (.s x6_1), .d (.sl 3 (eTypes x6_2)), .nilsl, .d (.b x11_0), .d (.b b8_3), .d (.i .i64 b8_4), .d (.s b8_5), .d (.sl 3 (eTypes b8_6)), .sl 4 0], .frz 9 1 0 (eStrs [[120], [121]])]) [0] (s_l11Expr 8 (Tl1Cur.mk x12_1_0 x12_1_1 x12_1_2) [[120], [121]] 2 hx22) VY_e)) ?_
                  refine VT_h1 (VY_ixa 0 (List.getElem?_eq_some_iff.1 hx23).1 VY_e) ?_
                  refine VT_h1 (VY_fla VY_e) ?_
                  refine VT_h1 (VY_stm [(.s x23_0), (.sl 1 (eStrs x23_1))] [] (.st [.i .i64 x23_2_0, .s x23_2_1, .s x23_2_2, .i .i64 x23_2_3, .st [.i .i64 x23_2_4_0, .s x23_2_4_1, .sl 3 (eTypes x23_2_4_2)], .sl 9 (eExprs x23_2_5), .sl 11 (eArms x23_2_6)]) (.st [.i .i64 x22_0_0, .s x22_0_1, .s x22_0_2, .i .i64 x22_0_3, .st [.i .i64 x22_0_4_0, .s x22_0_4_1, .sl 3 (eTypes x22_0_4_2)], .sl 9 (eExprs x22_0_5), .sl 11 (eArms x22_0_6)]) (TMethod.mk x23_0 x23_1 (TExpr.mk x23_2_0 x23_2_1 x23_2_2 x23_2_3 (TType.mk x23_2_4_0 x23_2_4_1 x23_2_4_2) x23_2_5 x23_2_6)) (TMethod.mk x23_0 x23_1 (TExpr.mk x22_0_0 x22_0_1 x22_0_2 x22_0_3 (TType.mk x22_0_4_0 x22_0_4_1 x22_0_4_2) x22_0_5 x22_0_6)) hx23 VY_e) ?_
                  refine VT_nil ?_
                  exact R_pk 1 [0, 1, 2, 3, 4, 5, 6]
                refine VT_h1 (VY_frz 6 rfl rfl (VY_cG (sv := .d (.st [.i .i64 x22_0_0, .s x22_0_1, .s x22_0_2, .i .i64 x22_0_3, .st [.i .i64 x22_0_4_0, .s x22_0_4_1, .sl 3 (eTypes x22_0_4_2)], .sl 9 (eExprs x22_0_5), .sl 11 (eArms x22_0_6)])) (L' := [.box [.d (.sl 1 (eBytes x22_1_0)), .d (.i .i64 x22_1_1), .d (.i .i64 x22_1_2)], .box [.d (.s []), .nilsl, .d (.i .i64 0), .d (.s []), .nilsl, .nilsl, .d (.b false), .d (.b false), .d (.i .i64 0), .d (.s []), .nilsl, .nilsl], .frz 9 1 0 (eStrs [[115, 104, 111, 119], [101, 113], [97, 100, 100]]), .frz 9 1 0 (eStrs [[120]]), .arr 65 11 0 (eMethods [(TMethod.mk [109] [[120]] (TExpr.mk x3_0 x3_1 x3_2 x3_3 (TType.mk x3_4_0 x3_4_1 x3_4_2) x3_5 x3_6))]), .box [.d (.s x1_0), .nilsl, .d (.i .i64 x6_0), .d (.s x6_1), .d (.sl 3 (eTypes x6_2)), .nilsl, .d (.b x11_0), .d (.b b8_3), .d (.i .i64 b8_4), .d (.s b8_5), .d (.sl 3 (eTypes b8_6)), .sl 4 0], .frz 9 1 0 (eStrs [[120], [121]])]) [0] (s_l11Expr 8 (Tl1Cur.mk x12_1_0 x12_1_1 x12_1_2) [[120], [121]] 2 hx22) VY_e)) ?_
                refine VT_h1 (VY_dh VY_e) ?_
                refine VT_h1 (VY_ixa 0 (List.getElem?_eq_some_iff.1 hx23).1 VY_e) ?_
                refine VT_h1 (VY_fla VY_e) ?_
                refine VT_h1 (VY_stm [(.s x23_0), (.sl 1 (eStrs x23_1))] [] (.st [.i .i64 x23_2_0, .s x23_2_1, .s x23_2_2, .i .i64 x23_2_3, .st [.i .i64 x23_2_4_0, .s x23_2_4_1, .sl 3 (eTypes x23_2_4_2)], .sl 9 (eExprs x23_2_5), .sl 11 (eArms x23_2_6)]) (.st [.i .i64 x22_0_0, .s x22_0_1, .s x22_0_2, .i .i64 x22_0_3, .st [.i .i64 x22_0_4_0, .s x22_0_4_1, .sl 3 (eTypes x22_0_4_2)], .sl 9 (eExprs x22_0_5), .sl 11 (eArms x22_0_6)]) (TMethod.mk x23_0 x23_1 (TExpr.mk x23_2_0 x23_2_1 x23_2_2 x23_2_3 (TType.mk x23_2_4_0 x23_2_4_1 x23_2_4_2) x23_2_5 x23_2_6)) (TMethod.mk x23_0 x23_1 (TExpr.mk x22_0_0 x22_0_1 x22_0_2 x22_0_3 (TType.mk x22_0_4_0 x22_0_4_1 x22_0_4_2) x22_0_5 x22_0_6)) hx23 VY_e) ?_
                refine VT_nil ?_
                exact R_pk 1 [0, 1, 2, 3, 4, 5, 6]
              refine VT_h1 (VY_lb (T := 24) (us := eStrs [[120], [121]]) VY_e) ?_
              refine VT_h (VY_dh VY_e) ?_ ?_
              · as_aux_lemma =>
                refine VT_h (VY_dh VY_e) ?_ ?_
                · refine VT_h1 (VY_frz 6 rfl rfl (VY_cG (sv := .d (.st [.i .i64 x22_0_0, .s x22_0_1, .s x22_0_2, .i .i64 x22_0_3, .st [.i .i64 x22_0_4_0, .s x22_0_4_1, .sl 3 (eTypes x22_0_4_2)], .sl 9 (eExprs x22_0_5), .sl 11 (eArms x22_0_6)])) (L' := [.box [.d (.sl 1 (eBytes x22_1_0)), .d (.i .i64 x22_1_1), .d (.i .i64 x22_1_2)], .box [.d (.s []), .nilsl, .d (.i .i64 0), .d (.s []), .nilsl, .nilsl, .d (.b false), .d (.b false), .d (.i .i64 0), .d (.s []), .nilsl, .nilsl], .frz 9 1 0 (eStrs [[115, 104, 111, 119], [101, 113], [97, 100, 100]]), .frz 9 1 0 (eStrs [[120]]), .arr 65 11 0 (eMethods [(TMethod.mk [109] [[120]] (TExpr.mk x3_0 x3_1 x3_2 x3_3 (TType.mk x3_4_0 x3_4_1 x3_4_2) x3_5 x3_6))]), .box [.d (.s x1_0), .nilsl, .d (.i .i64 x6_0), .d (.s x6_1), .d (.sl 3 (eTypes x6_2)), .nilsl, .d (.b x11_0), .d (.b b8_3), .d (.i .i64 b8_4), .d (.s b8_5), .d (.sl 3 (eTypes b8_6)), .sl 4 0], .frz 9 1 0 (eStrs [[120], [121]])]) [0] (s_l11Expr 8 (Tl1Cur.mk x12_1_0 x12_1_1 x12_1_2) [[120], [121]] 2 hx22) VY_e)) ?_
                  refine VT_h1 (VY_ixa 0 (List.getElem?_eq_some_iff.1 hx23).1 VY_e) ?_
                  refine VT_h1 (VY_fla VY_e) ?_
                  refine VT_h1 (VY_stm [(.s x23_0), (.sl 1 (eStrs x23_1))] [] (.st [.i .i64 x23_2_0, .s x23_2_1, .s x23_2_2, .i .i64 x23_2_3, .st [.i .i64 x23_2_4_0, .s x23_2_4_1, .sl 3 (eTypes x23_2_4_2)], .sl 9 (eExprs x23_2_5), .sl 11 (eArms x23_2_6)]) (.st [.i .i64 x22_0_0, .s x22_0_1, .s x22_0_2, .i .i64 x22_0_3, .st [.i .i64 x22_0_4_0, .s x22_0_4_1, .sl 3 (eTypes x22_0_4_2)], .sl 9 (eExprs x22_0_5), .sl 11 (eArms x22_0_6)]) (TMethod.mk x23_0 x23_1 (TExpr.mk x23_2_0 x23_2_1 x23_2_2 x23_2_3 (TType.mk x23_2_4_0 x23_2_4_1 x23_2_4_2) x23_2_5 x23_2_6)) (TMethod.mk x23_0 x23_1 (TExpr.mk x22_0_0 x22_0_1 x22_0_2 x22_0_3 (TType.mk x22_0_4_0 x22_0_4_1 x22_0_4_2) x22_0_5 x22_0_6)) hx23 VY_e) ?_
                  refine VT_nil ?_
                  exact R_pk 1 [0, 1, 2, 3, 4, 5, 6]
                refine VT_h1 (VY_frz 6 rfl rfl (VY_cG (sv := .d (.st [.i .i64 x22_0_0, .s x22_0_1, .s x22_0_2, .i .i64 x22_0_3, .st [.i .i64 x22_0_4_0, .s x22_0_4_1, .sl 3 (eTypes x22_0_4_2)], .sl 9 (eExprs x22_0_5), .sl 11 (eArms x22_0_6)])) (L' := [.box [.d (.sl 1 (eBytes x22_1_0)), .d (.i .i64 x22_1_1), .d (.i .i64 x22_1_2)], .box [.d (.s []), .nilsl, .d (.i .i64 0), .d (.s []), .nilsl, .nilsl, .d (.b false), .d (.b false), .d (.i .i64 0), .d (.s []), .nilsl, .nilsl], .frz 9 1 0 (eStrs [[115, 104, 111, 119], [101, 113], [97, 100, 100]]), .frz 9 1 0 (eStrs [[120]]), .arr 65 11 0 (eMethods [(TMethod.mk [109] [[120]] (TExpr.mk x3_0 x3_1 x3_2 x3_3 (TType.mk x3_4_0 x3_4_1 x3_4_2) x3_5 x3_6))]), .box [.d (.s x1_0), .nilsl, .d (.i .i64 x6_0), .d (.s x6_1), .d (.sl 3 (eTypes x6_2)), .nilsl, .d (.b x11_0), .d (.b b8_3), .d (.i .i64 b8_4), .d (.s b8_5), .d (.sl 3 (eTypes b8_6)), .sl 4 0], .frz 9 1 0 (eStrs [[120], [121]])]) [0] (s_l11Expr 8 (Tl1Cur.mk x12_1_0 x12_1_1 x12_1_2) [[120], [121]] 2 hx22) VY_e)) ?_
                refine VT_h1 (VY_dh VY_e) ?_
                refine VT_h1 (VY_ixa 0 (List.getElem?_eq_some_iff.1 hx23).1 VY_e) ?_
                refine VT_h1 (VY_fla VY_e) ?_
                refine VT_h1 (VY_stm [(.s x23_0), (.sl 1 (eStrs x23_1))] [] (.st [.i .i64 x23_2_0, .s x23_2_1, .s x23_2_2, .i .i64 x23_2_3, .st [.i .i64 x23_2_4_0, .s x23_2_4_1, .sl 3 (eTypes x23_2_4_2)], .sl 9 (eExprs x23_2_5), .sl 11 (eArms x23_2_6)]) (.st [.i .i64 x22_0_0, .s x22_0_1, .s x22_0_2, .i .i64 x22_0_3, .st [.i .i64 x22_0_4_0, .s x22_0_4_1, .sl 3 (eTypes x22_0_4_2)], .sl 9 (eExprs x22_0_5), .sl 11 (eArms x22_0_6)]) (TMethod.mk x23_0 x23_1 (TExpr.mk x23_2_0 x23_2_1 x23_2_2 x23_2_3 (TType.mk x23_2_4_0 x23_2_4_1 x23_2_4_2) x23_2_5 x23_2_6)) (TMethod.mk x23_0 x23_1 (TExpr.mk x22_0_0 x22_0_1 x22_0_2 x22_0_3 (TType.mk x22_0_4_0 x22_0_4_1 x22_0_4_2) x22_0_5 x22_0_6)) hx23 VY_e) ?_
                refine VT_nil ?_
                exact R_pk 1 [0, 1, 2, 3, 4, 5, 6]
              refine VT_h1 (VY_frz 6 rfl rfl (VY_cG (sv := .d (.st [.i .i64 x22_0_0, .s x22_0_1, .s x22_0_2, .i .i64 x22_0_3, .st [.i .i64 x22_0_4_0, .s x22_0_4_1, .sl 3 (eTypes x22_0_4_2)], .sl 9 (eExprs x22_0_5), .sl 11 (eArms x22_0_6)])) (L' := [.box [.d (.sl 1 (eBytes x22_1_0)), .d (.i .i64 x22_1_1), .d (.i .i64 x22_1_2)], .box [.d (.s []), .nilsl, .d (.i .i64 0), .d (.s []), .nilsl, .nilsl, .d (.b false), .d (.b false), .d (.i .i64 0), .d (.s []), .nilsl, .nilsl], .frz 9 1 0 (eStrs [[115, 104, 111, 119], [101, 113], [97, 100, 100]]), .frz 9 1 0 (eStrs [[120]]), .arr 65 11 0 (eMethods [(TMethod.mk [109] [[120]] (TExpr.mk x3_0 x3_1 x3_2 x3_3 (TType.mk x3_4_0 x3_4_1 x3_4_2) x3_5 x3_6))]), .box [.d (.s x1_0), .nilsl, .d (.i .i64 x6_0), .d (.s x6_1), .d (.sl 3 (eTypes x6_2)), .nilsl, .d (.b x11_0), .d (.b b8_3), .d (.i .i64 b8_4), .d (.s b8_5), .d (.sl 3 (eTypes b8_6)), .sl 4 0], .frz 9 1 0 (eStrs [[120], [121]])]) [0] (s_l11Expr 8 (Tl1Cur.mk x12_1_0 x12_1_1 x12_1_2) [[120], [121]] 2 hx22) VY_e)) ?_
              refine VT_h1 (VY_dh VY_e) ?_
              refine VT_h1 (VY_dh VY_e) ?_
              refine VT_h1 (VY_ixa 0 (List.getElem?_eq_some_iff.1 hx23).1 VY_e) ?_
              refine VT_h1 (VY_fla VY_e) ?_
              refine VT_h1 (VY_stm [(.s x23_0), (.sl 1 (eStrs x23_1))] [] (.st [.i .i64 x23_2_0, .s x23_2_1, .s x23_2_2, .i .i64 x23_2_3, .st [.i .i64 x23_2_4_0, .s x23_2_4_1, .sl 3 (eTypes x23_2_4_2)], .sl 9 (eExprs x23_2_5), .sl 11 (eArms x23_2_6)]) (.st [.i .i64 x22_0_0, .s x22_0_1, .s x22_0_2, .i .i64 x22_0_3, .st [.i .i64 x22_0_4_0, .s x22_0_4_1, .sl 3 (eTypes x22_0_4_2)], .sl 9 (eExprs x22_0_5), .sl 11 (eArms x22_0_6)]) (TMethod.mk x23_0 x23_1 (TExpr.mk x23_2_0 x23_2_1 x23_2_2 x23_2_3 (TType.mk x23_2_4_0 x23_2_4_1 x23_2_4_2) x23_2_5 x23_2_6)) (TMethod.mk x23_0 x23_1 (TExpr.mk x22_0_0 x22_0_1 x22_0_2 x22_0_3 (TType.mk x22_0_4_0 x22_0_4_1 x22_0_4_2) x22_0_5 x22_0_6)) hx23 VY_e) ?_
              refine VT_nil ?_
              exact R_pk 1 [0, 1, 2, 3, 4, 5, 6]
            refine goL ?_
            refine V_freeze 4 rfl rfl ?_
            refine V_ret ?_
            replace h := Option.some.inj h
            subst h
            exact R_rF [.d (.st [.s x1_0, .sl 1 [], .st [.i .i64 x6_0, .s x6_1, .sl 3 (eTypes x6_2)], .sl 4 [], .b x11_0, .b b8_3, .st [.i .i64 b8_4, .s b8_5, .sl 3 (eTypes b8_6)], .sl 11 (eMethods ([(TMethod.mk [109] [[120]] (TExpr.mk x3_0 x3_1 x3_2 x3_3 (TType.mk x3_4_0 x3_4_1 x3_4_2) x3_5 x3_6))].set 0 (TMethod.mk x23_0 x23_1 (TExpr.mk x22_0_0 x22_0_1 x22_0_2 x22_0_3 (TType.mk x22_0_4_0 x22_0_4_1 x22_0_4_2) x22_0_5 x22_0_6))))])] [.box [.d (.sl 1 (eBytes x22_1_0)), .d (.i .i64 x22_1_1), .d (.i .i64 x22_1_2)]] ⟨rfl, rfl⟩
          · as_aux_lemma =>
            replace h := cnd_f c21 h
            refine goL ?_
            refine V_cb (fun c24 => ?_) (fun c24 => ?_)
            · replace h := cnd_t c24 h
              refine goL ?_
              obtain ⟨x25, hx25, h⟩ := bnd_s h
              obtain ⟨x25_0, x25_1, x25_2⟩ := x25
              refine VO_r (QR_call (w_l4Int  hx25)) ?_
              refine goL ?_
              refine V_freeze 4 rfl rfl ?_
              refine V_ret ?_
              replace h := Option.some.inj h
              subst h
              exact R_rF [.d (.st [.s x1_0, .sl 1 [], .st [.i .i64 x6_0, .s x6_1, .sl 3 (eTypes x6_2)], .sl 4 [], .b x11_0, .b b8_3, .st [.i .i64 x25_0, .s x25_1, .sl 3 (eTypes x25_2)], .sl 11 (eMethods [(TMethod.mk [109] [[120]] (TExpr.mk x3_0 x3_1 x3_2 x3_3 (TType.mk x3_4_0 x3_4_1 x3_4_2) x3_5 x3_6))])])] [.box [.d (.sl 1 (eBytes x12_1_0)), .d (.i .i64 x12_1_1), .d (.i .i64 x12_1_2)]] ⟨rfl, rfl⟩
            · as_aux_lemma =>
              replace h := cnd_f c24 h
              refine goL ?_
              refine V_cb (fun c26 => ?_) (fun c26 => ?_)
              · as_aux_lemma =>
                replace h := cnd_t c26 h
                refine goL ?_
                refine VO_l0 ?_
                obtain ⟨x27, hx27, h⟩ := bnd_s h
                obtain ⟨hx270, hx27⟩ := at_s hx27
                obtain ⟨x27_0, x27_1, ⟨x27_2_0, x27_2_1, x27_2_2, x27_2_3, ⟨x27_2_4_0, x27_2_4_1, x27_2_4_2⟩, x27_2_5, x27_2_6⟩⟩ := x27
                refine VO_k (Q_ixa 0 (List.getElem?_eq_some_iff.1 hx27).1) ?_
                refine VO_k (Q_fla) ?_
                refine VO_freezeO 6 rfl rfl ?_
                refine VO_stm [(.s x27_0)] [(.st [.i .i64 x27_2_0, .s x27_2_1, .s x27_2_2, .i .i64 x27_2_3, .st [.i .i64 x27_2_4_0, .s x27_2_4_1, .sl 3 (eTypes x27_2_4_2)], .sl 9 (eExprs x27_2_5), .sl 11 (eArms x27_2_6)])] (.sl 1 (eStrs x27_1)) (.sl 1 []) (TMethod.mk x27_0 x27_1 (TExpr.mk x27_2_0 x27_2_1 x27_2_2 x27_2_3 (TType.mk x27_2_4_0 x27_2_4_1 x27_2_4_2) x27_2_5 x27_2_6)) (TMethod.mk x27_0 [] (TExpr.mk x27_2_0 x27_2_1 x27_2_2 x27_2_3 (TType.mk x27_2_4_0 x27_2_4_1 x27_2_4_2) x27_2_5 x27_2_6)) hx27 ?_
                refine goL ?_
                refine V_freeze 4 rfl rfl ?_
                refine V_ret ?_
                replace h := Option.some.inj h
                subst h
                exact R_rF [.d (.st [.s x1_0, .sl 1 [], .st [.i .i64 x6_0, .s x6_1, .sl 3 (eTypes x6_2)], .sl 4 [], .b x11_0, .b b8_3, .st [.i .i64 b8_4, .s b8_5, .sl 3 (eTypes b8_6)], .sl 11 (eMethods ([(TMethod.mk [109] [[120]] (TExpr.mk x3_0 x3_1 x3_2 x3_3 (TType.mk x3_4_0 x3_4_1 x3_4_2) x3_5 x3_6))].set 0 (TMethod.mk x27_0 [] (TExpr.mk x27_2_0 x27_2_1 x27_2_2 x27_2_3 (TType.mk x27_2_4_0 x27_2_4_1 x27_2_4_2) x27_2_5 x27_2_6))))])] [.box [.d (.sl 1 (eBytes x12_1_0)), .d (.i .i64 x12_1_1), .d (.i .i64 x12_1_2)]] ⟨rfl, rfl⟩
              · replace h := cnd_f c26 h
                refine V_skip ?_
                show V _ _ _ _ _
                refine goL ?_
                refine V_freeze 4 rfl rfl ?_
                refine V_ret ?_
                replace h := Option.some.inj h
                subst h
                exact R_rF [.d (.st [.s x1_0, .sl 1 [], .st [.i .i64 x6_0, .s x6_1, .sl 3 (eTypes x6_2)], .sl 4 [], .b x11_0, .b b8_3, .st [.i .i64 b8_4, .s b8_5, .sl 3 (eTypes b8_6)], .sl 11 (eMethods [(TMethod.mk [109] [[120]] (TExpr.mk x3_0 x3_1 x3_2 x3_3 (TType.mk x3_4_0 x3_4_1 x3_4_2) x3_5 x3_6))])])] [.box [.d (.sl 1 (eBytes x12_1_0)), .d (.i .i64 x12_1_1), .d (.i .i64 x12_1_2)]] ⟨rfl, rfl⟩
  · as_aux_lemma =>
    replace h := cnd_f c5 h
    refine goL ?_
    refine V_cb (fun c28 => ?_) (fun c28 => ?_)
    · as_aux_lemma =>
      replace h := cnd_t c28 h
      refine goL ?_
      refine VO_la1 (u := (.s [97])) ?_
      refine goL ?_
      obtain ⟨x29, hx29, h⟩ := lt_x h
      obtain ⟨x29_0, x29_1, x29_2⟩ := x29
      have sx29 := w_sVar [97]
      rw [hx29] at sx29
      refine VO_r (QR_call (sx29)) ?_
      refine VO_la1 (u := (.st [.i .i64 x29_0, .s x29_1, .sl 3 (eTypes x29_2)])) ?_
      refine VO_freeze 7 rfl rfl ?_
      obtain ⟨x30, hx30, h⟩ := bnd_s h
      obtain ⟨x30_0, x30_1, x30_2⟩ := x30
      refine VO_k (Q_cl (w_l4Con [108, 105, 115, 116] [(TType.mk x29_0 x29_1 x29_2)] hx30)) ?_
      refine goNL ?_
      refine V_drawX (P := Try.prog) Mix.h [(0, true), (1, true), (2, true), (3, true), (4, false), (5, true), (6, false)] (by kernel_rfl) ?_
      refine goY ?_
      obtain ⟨x31, hx31, h⟩ := lt_x h
      obtain ⟨x31_0, x31_1, x31_2⟩ := x31
      have sx31 := w_sVar [97]
      rw [hx31] at sx31
      refine VY_ri rfl (QR_call (sx31)) ?_
      refine goY ?_
      refine VY_lb (T := 28) (us := eBounds [(TBound.mk x1_0 (TType.mk x31_0 x31_1 x31_2))]) ?_
      refine goY ?_
      refine VY_nil ?_
      refine goL ?_
      obtain ⟨x32, hx32, h⟩ := bnd_s h
      obtain ⟨x32_0, ⟨x32_1_0, x32_1_1, x32_1_2⟩⟩ := x32
      refine VO_cG [0] (w_l1Once (Tl1Cur.mk x4_1_0 x4_1_1 x4_1_2) 3 hx32) ?_
      rintro _ _ ⟨rfl, rfl⟩
      show VO _ _ _ _ ⟨(_, .d (.b x32_0)) :: _, [.box [.d (.sl 1 (eBytes x32_1_0)), .d (.i .i64 x32_1_1), .d (.i .i64 x32_1_2)], .box [.d (.s []), .nilsl, .d (.i .i64 0), .d (.s []), .nilsl, .nilsl, .d (.b false), .d (.b false), .d (.i .i64 0), .d (.s []), .nilsl, .nilsl], .frz 9 1 0 (eStrs [[115, 104, 111, 119], [101, 113], [97, 100, 100]]), .frz 9 1 0 (eStrs [[120]]), .arr 65 11 0 (eMethods [(TMethod.mk [109] [[120]] (TExpr.mk x3_0 x3_1 x3_2 x3_3 (TType.mk x3_4_0 x3_4_1 x3_4_2) x3_5 x3_6))]), .box [.d (.s x1_0), .sl 6 0, .d (.i .i64 x30_0), .d (.s x30_1), .d (.sl 3 (eTypes x30_2)), .sl 8 0, .d (.b false), .d (.b false), .d (.i .i64 0), .d (.s []), .nilsl, .sl 4 0], .arr 9 1 0 (eStrs [[97]]), .frz 27 3 0 (eTypes [(TType.mk x29_0 x29_1 x29_2)]), .arr 69 4 0 (eBounds [(TBound.mk x1_0 (TType.mk x31_0 x31_1 x31_2))])], _⟩ _
      refine goL ?_
      refine V_nild 3 5 10 rfl rfl (by repeat constructor) (by repeat constructor) ?_
      obtain ⟨b33, hb33, h⟩ := bnd_s h
      obtain ⟨b33_0, b33_1, b33_2, b33_3, b33_4, b33_5, b33_6⟩ := b33
      refine V_thenJ ⟨[(0, .ptr 0 0), (2, .ptr 1 0), (3, .ptr 5 0)], [.box [.d (.sl 1 (eBytes b33_0)), .d (.i .i64 b33_1), .d (.i .i64 b33_2)], .box [.d (.s []), .nilsl, .d (.i .i64 0), .d (.s []), .nilsl, .nilsl, .d (.b false), .d (.b false), .d (.i .i64 0), .d (.s []), .nilsl, .nilsl], .frz 9 1 0 (eStrs [[115, 104, 111, 119], [101, 113], [97, 100, 100]]), .frz 9 1 0 (eStrs [[120]]), .arr 65 11 0 (eMethods [(TMethod.mk [109] [[120]] (TExpr.mk x3_0 x3_1 x3_2 x3_3 (TType.mk x3_4_0 x3_4_1 x3_4_2) x3_5 x3_6))]), .box [.d (.s x1_0), .sl 6 0, .d (.i .i64 x30_0), .d (.s x30_1), .d (.sl 3 (eTypes x30_2)), .sl 8 0, .d (.b false), .d (.b b33_3), .d (.i .i64 b33_4), .d (.s b33_5), .d (.sl 3 (eTypes b33_6)), .sl 4 0], .arr 9 1 0 (eStrs [[97]]), .frz 27 3 0 (eTypes [(TType.mk x29_0 x29_1 x29_2)]), .arr 69 4 0 (eBounds [(TBound.mk x1_0 (TType.mk x31_0 x31_1 x31_2))])], Try.f17.ntmps⟩ ?_ ?_
      · as_aux_lemma =>
        refine V_cb (fun c34 => ?_) (fun c34 => ?_)
        · replace hb33 := cnd_t c34 hb33
          refine goL ?_
          obtain ⟨x35, hx35, hb33⟩ := bnd_s hb33
          obtain ⟨⟨x35_0_0, x35_0_1, x35_0_2⟩, ⟨x35_1_0, x35_1_1, x35_1_2⟩⟩ := x35
          refine VO_cG [0, 6] (s_l4TyL 8 (Tl1Cur.mk x32_1_0 x32_1_1 x32_1_2) [[97]] 1 0 hx35) ?_
          rintro _ _ ⟨rfl, rfl⟩
          show VO _ _ _ _ ⟨(_, .d (.st [.i .i64 x35_0_0, .s x35_0_1, .sl 3 (eTypes x35_0_2)])) :: _, [.box [.d (.sl 1 (eBytes x35_1_0)), .d (.i .i64 x35_1_1), .d (.i .i64 x35_1_2)], .box [.d (.s []), .nilsl, .d (.i .i64 0), .d (.s []), .nilsl, .nilsl, .d (.b false), .d (.b false), .d (.i .i64 0), .d (.s []), .nilsl, .nilsl], .frz 9 1 0 (eStrs [[115, 104, 111, 119], [101, 113], [97, 100, 100]]), .frz 9 1 0 (eStrs [[120]]), .arr 65 11 0 (eMethods [(TMethod.mk [109] [[120]] (TExpr.mk x3_0 x3_1 x3_2 x3_3 (TType.mk x3_4_0 x3_4_1 x3_4_2) x3_5 x3_6))]), .box [.d (.s x1_0), .sl 6 0, .d (.i .i64 x30_0), .d (.s x30_1), .d (.sl 3 (eTypes x30_2)), .sl 8 0, .d (.b false), .d (.b true), .d (.i .i64 0), .d (.s []), .d (.sl 3 []), .sl 4 0], .arr 9 1 0 (eStrs [[97]]), .frz 27 3 0 (eTypes [(TType.mk x29_0 x29_1 x29_2)]), .arr 69 4 0 (eBounds [(TBound.mk x1_0 (TType.mk x31_0 x31_1 x31_2))])], _⟩ _
          refine goL ?_
          cases hb33
          exact ⟨rfl, ⟨⟨rfl, rfl⟩, ⟨rfl, rfl⟩, ⟨rfl, rfl⟩, trivial⟩, ⟨_, rfl⟩, rfl⟩
        · replace hb33 := cnd_f c34 hb33
          refine V_skip ?_
          cases hb33
          exact ⟨rfl, ⟨⟨rfl, rfl⟩, ⟨rfl, rfl⟩, ⟨rfl, rfl⟩, trivial⟩, ⟨_, rfl⟩, rfl⟩
      refine goL ?_
      obtain ⟨x36, hx36, h⟩ := bnd_s h
      obtain ⟨x36_0, ⟨x36_1_0, x36_1_1, x36_1_2⟩⟩ := x36
      refine VO_cG [0] (w_l1Once (Tl1Cur.mk b33_0 b33_1 b33_2) 4 hx36) ?_
      rintro _ _ ⟨rfl, rfl⟩
      show VO _ _ _ _ ⟨(_, .d (.b x36_0)) :: _, [.box [.d (.sl 1 (eBytes x36_1_0)), .d (.i .i64 x36_1_1), .d (.i .i64 x36_1_2)], .box [.d (.s []), .nilsl, .d (.i .i64 0), .d (.s []), .nilsl, .nilsl, .d (.b false), .d (.b false), .d (.i .i64 0), .d (.s []), .nilsl, .nilsl], .frz 9 1 0 (eStrs [[115, 104, 111, 119], [101, 113], [97, 100, 100]]), .frz 9 1 0 (eStrs [[120]]), .arr 65 11 0 (eMethods [(TMethod.mk [109] [[120]] (TExpr.mk x3_0 x3_1 x3_2 x3_3 (TType.mk x3_4_0 x3_4_1 x3_4_2) x3_5 x3_6))]), .box [.d (.s x1_0), .sl 6 0, .d (.i .i64 x30_0), .d (.s x30_1), .d (.sl 3 (eTypes x30_2)), .sl 8 0, .d (.b false), .d (.b b33_3), .d (.i .i64 b33_4), .d (.s b33_5), .d (.sl 3 (eTypes b33_6)), .sl 4 0], .arr 9 1 0 (eStrs [[97]]), .frz 27 3 0 (eTypes [(TType.mk x29_0 x29_1 x29_2)]), .arr 69 4 0 (eBounds [(TBound.mk x1_0 (TType.mk x31_0 x31_1 x31_2))])], _⟩ _
      refine goL ?_
      obtain ⟨x37, hx37, h⟩ := bnd_s h
      obtain ⟨x37_0, ⟨x37_1_0, x37_1_1, x37_1_2⟩⟩ := x37
      refine VO_cG [0] (w_l1Below (Tl1Cur.mk x36_1_0 x36_1_1 x36_1_2) 12 hx37) ?_
      rintro _ _ ⟨rfl, rfl⟩
      show VO _ _ _ _ ⟨(_, .d (.i .i64 x37_0)) :: _, [.box [.d (.sl 1 (eBytes x37_1_0)), .d (.i .i64 x37_1_1), .d (.i .i64 x37_1_2)], .box [.d (.s []), .nilsl, .d (.i .i64 0), .d (.s []), .nilsl, .nilsl, .d (.b false), .d (.b false), .d (.i .i64 0), .d (.s []), .nilsl, .nilsl], .frz 9 1 0 (eStrs [[115, 104, 111, 119], [101, 113], [97, 100, 100]]), .frz 9 1 0 (eStrs [[120]]), .arr 65 11 0 (eMethods [(TMethod.mk [109] [[120]] (TExpr.mk x3_0 x3_1 x3_2 x3_3 (TType.mk x3_4_0 x3_4_1 x3_4_2) x3_5 x3_6))]), .box [.d (.s x1_0), .sl 6 0, .d (.i .i64 x30_0), .d (.s x30_1), .d (.sl 3 (eTypes x30_2)), .sl 8 0, .d (.b x36_0), .d (.b b33_3), .d (.i .i64 b33_4), .d (.s b33_5), .d (.sl 3 (eTypes b33_6)), .sl 4 0], .arr 9 1 0 (eStrs [[97]]), .frz 27 3 0 (eTypes [(TType.mk x29_0 x29_1 x29_2)]), .arr 69 4 0 (eBounds [(TBound.mk x1_0 (TType.mk x31_0 x31_1 x31_2))])], _⟩ _
      refine goL ?_
      refine V_block ?_
      refine goL ?_
      refine V_cb (fun c38 => ?_) (fun c38 => ?_)
      · as_aux_lemma =>
        replace h := cnd_t c38 h
        refine goL ?_
        obtain ⟨x39, hx39, h⟩ := bnd_s h
        obtain ⟨⟨x39_0_0, x39_0_1, x39_0_2⟩, ⟨x39_1_0, x39_1_1, x39_1_2⟩⟩ := x39
        refine VO_cG [0] (w_l4Free (Tl1Cur.mk x37_1_0 x37_1_1 x37_1_2) 2 hx39) ?_
        rintro _ _ ⟨rfl, rfl⟩
        show VO _ _ _ _ ⟨(_, .d (.st [.i .i64 x39_0_0, .s x39_0_1, .sl 3 (eTypes x39_0_2)])) :: _, [.box [.d (.sl 1 (eBytes x39_1_0)), .d (.i .i64 x39_1_1), .d (.i .i64 x39_1_2)], .box [.d (.s []), .nilsl, .d (.i .i64 0), .d (.s []), .nilsl, .nilsl, .d (.b false), .d (.b false), .d (.i .i64 0), .d (.s []), .nilsl, .nilsl], .frz 9 1 0 (eStrs [[115, 104, 111, 119], [101, 113], [97, 100, 100]]), .frz 9 1 0 (eStrs [[120]]), .arr 65 11 0 (eMethods [(TMethod.mk [109] [[120]] (TExpr.mk x3_0 x3_1 x3_2 x3_3 (TType.mk x3_4_0 x3_4_1 x3_4_2) x3_5 x3_6))]), .box [.d (.s x1_0), .sl 6 0, .d (.i .i64 x30_0), .d (.s x30_1), .d (.sl 3 (eTypes x30_2)), .sl 8 0, .d (.b x36_0), .d (.b b33_3), .d (.i .i64 b33_4), .d (.s b33_5), .d (.sl 3 (eTypes b33_6)), .sl 4 0], .arr 9 1 0 (eStrs [[97]]), .frz 27 3 0 (eTypes [(TType.mk x29_0 x29_1 x29_2)]), .arr 69 4 0 (eBounds [(TBound.mk x1_0 (TType.mk x31_0 x31_1 x31_2))])], _⟩ _
        refine goL ?_
        refine V_freeze 6 rfl rfl ?_
        refine V_freeze 8 rfl rfl ?_
        refine V_freeze 4 rfl rfl ?_
        refine V_ret ?_
        replace h := Option.some.inj h
        subst h
        exact R_rF [.d (.st [.s x1_0, .sl 1 (eStrs [[97]]), .st [.i .i64 x39_0_0, .s x39_0_1, .sl 3 (eTypes x39_0_2)], .sl 4 (eBounds [(TBound.mk x1_0 (TType.mk x31_0 x31_1 x31_2))]), .b x36_0, .b b33_3, .st [.i .i64 b33_4, .s b33_5, .sl 3 (eTypes b33_6)], .sl 11 (eMethods [(TMethod.mk [109] [[120]] (TExpr.mk x3_0 x3_1 x3_2 x3_3 (TType.mk x3_4_0 x3_4_1 x3_4_2) x3_5 x3_6))])])] [.box [.d (.sl 1 (eBytes x39_1_0)), .d (.i .i64 x39_1_1), .d (.i .i64 x39_1_2)]] ⟨rfl, rfl⟩
      · as_aux_lemma =>
        replace h := cnd_f c38 h
        refine goL ?_
        refine V_cb (fun c40 => ?_) (fun c40 => ?_)
        · as_aux_lemma =>
          replace h := cnd_t c40 h
          obtain ⟨x41, hx41, h⟩ := bnd_s h
          obtain ⟨x41_0, ⟨x41_1_0, x41_1_1, x41_1_2⟩⟩ := x41
          obtain ⟨g42, h⟩ := gd_s h
          refine V_drawTJ (P := Try.prog) Mix.h (.q 2 (.h 0 (.h 1 (.h 3 (.h 4 (.h 5 (.h 6 (.q 7 (.h 8 .nil .nil)) .nil) .nil) .nil) .nil) (.h 3 (.h 1 (.h 4 (.h 5 (.h 6 (.q 7 (.h 8 .nil .nil)) .nil) .nil) .nil) (.h 4 (.h 1 (.h 5 (.h 6 (.q 7 (.h 8 .nil .nil)) .nil) .nil) (.h 5 (.h 1 (.h 6 (.q 7 (.h 8 .nil .nil)) .nil) .nil) .nil)) .nil)) .nil)) (.h 3 (.h 0 (.h 1 (.h 4 (.h 5 (.h 6 (.q 7 (.h 8 .nil .nil)) .nil) .nil) .nil) (.h 4 (.h 1 (.h 5 (.h 6 (.q 7 (.h 8 .nil .nil)) .nil) .nil) (.h 5 (.h 1 (.h 6 (.q 7 (.h 8 .nil .nil)) .nil) .nil) .nil)) .nil)) (.h 4 (.h 0 (.h 1 (.h 5 (.h 6 (.q 7 (.h 8 .nil .nil)) .nil) .nil) (.h 5 (.h 1 (.h 6 (.q 7 (.h 8 .nil .nil)) .nil) .nil) .nil)) (.h 5 (.h 0 (.h 1 (.h 6 (.q 7 (.h 8 .nil .nil)) .nil) .nil) .nil) .nil)) .nil)) .nil))) ⟨[(2, .ptr 1 0), (3, .ptr 5 0)], [.box [.d (.sl 1 (eBytes x41_1_0)), .d (.i .i64 x41_1_1), .d (.i .i64 x41_1_2)], .box [.d (.s []), .nilsl, .d (.i .i64 0), .d (.s []), .nilsl, .nilsl, .d (.b false), .d (.b false), .d (.i .i64 0), .d (.s []), .nilsl, .nilsl], .frz 9 1 0 (eStrs [[115, 104, 111, 119], [101, 113], [97, 100, 100]]), .frz 9 1 0 (eStrs [[120]]), .arr 65 11 0 (eMethods [(TMethod.mk [109] [[120]] (TExpr.mk x3_0 x3_1 x3_2 x3_3 (TType.mk x3_4_0 x3_4_1 x3_4_2) x3_5 x3_6))]), .box [.d (.s x1_0), .sl 6 (0 + 1), .d (.i .i64 x30_0), .d (.s x30_1), .d (.sl 3 (eTypes x30_2)), .sl 8 0, .d (.b x36_0), .d (.b b33_3), .d (.i .i64 b33_4), .d (.s b33_5), .d (.sl 3 (eTypes b33_6)), .sl 4 0], .arr 9 1 (0 + 1) (eStrs ([[97]] ++ [x41_0])), .frz 27 3 0 (eTypes [(TType.mk x29_0 x29_1 x29_2)]), .arr 69 4 0 (eBounds [(TBound.mk x1_0 (TType.mk x31_0 x31_1 x31_2))]), .frz 9 1 0 (eStrs [[97], [99]]), .arr 9 1 0 (eStrs [x41_0])], Try.f17.ntmps⟩ (by kernel_rfl) ?_ ?_
          · as_aux_lemma =>
            refine goT ?_
            refine VT_h (VY_dh VY_e) ?_ ?_
            · as_aux_lemma =>
              refine VT_h (VY_dh VY_e) ?_ ?_
              · refine VT_h1 (VY_lb (T := 24) (us := eStrs [[97], [99]]) VY_e) ?_
                refine VT_h1 (VY_frz 9 rfl rfl (VY_cG (sv := .d (.s x41_0)) (L' := [.box [.d (.sl 1 (eBytes x41_1_0)), .d (.i .i64 x41_1_1), .d (.i .i64 x41_1_2)], .box [.d (.s []), .nilsl, .d (.i .i64 0), .d (.s []), .nilsl, .nilsl, .d (.b false), .d (.b false), .d (.i .i64 0), .d (.s []), .nilsl, .nilsl], .frz 9 1 0 (eStrs [[115, 104, 111, 119], [101, 113], [97, 100, 100]]), .frz 9 1 0 (eStrs [[120]]), .arr 65 11 0 (eMethods [(TMethod.mk [109] [[120]] (TExpr.mk x3_0 x3_1 x3_2 x3_3 (TType.mk x3_4_0 x3_4_1 x3_4_2) x3_5 x3_6))]), .box [.d (.s x1_0), .sl 6 0, .d (.i .i64 x30_0), .d (.s x30_1), .d (.sl 3 (eTypes x30_2)), .sl 8 0, .d (.b x36_0), .d (.b b33_3), .d (.i .i64 b33_4), .d (.s b33_5), .d (.sl 3 (eTypes b33_6)), .sl 4 0], .arr 9 1 0 (eStrs [[97]]), .frz 27 3 0 (eTypes [(TType.mk x29_0 x29_1 x29_2)]), .arr 69 4 0 (eBounds [(TBound.mk x1_0 (TType.mk x31_0 x31_1 x31_2))]), .frz 9 1 0 (eStrs [[97], [99]])]) [0] (w_l1Pick (Tl1Cur.mk x37_1_0 x37_1_1 x37_1_2) [[97], [99]] hx41) VY_e)) ?_
                refine VT_h1 (VY_lb (T := 24) (us := eStrs [x41_0]) VY_e) ?_
                refine VT_h1 (VY_apa (T := 24) g42 VY_e) ?_
                refine goT ?_
                refine VT_nil ?_
                exact R_pk 1 [0, 1, 2, 3, 4, 5, 6, 7, 8, 9, 10]
              refine VT_h1 (VY_lb (T := 24) (us := eStrs [[97], [99]]) VY_e) ?_
              refine VT_h (VY_dh VY_e) ?_ ?_
              · refine VT_h1 (VY_frz 9 rfl rfl (VY_cG (sv := .d (.s x41_0)) (L' := [.box [.d (.sl 1 (eBytes x41_1_0)), .d (.i .i64 x41_1_1), .d (.i .i64 x41_1_2)], .box [.d (.s []), .nilsl, .d (.i .i64 0), .d (.s []), .nilsl, .nilsl, .d (.b false), .d (.b false), .d (.i .i64 0), .d (.s []), .nilsl, .nilsl], .frz 9 1 0 (eStrs [[115, 104, 111, 119], [101, 113], [97, 100, 100]]), .frz 9 1 0 (eStrs [[120]]), .arr 65 11 0 (eMethods [(TMethod.mk [109] [[120]] (TExpr.mk x3_0 x3_1 x3_2 x3_3 (TType.mk x3_4_0 x3_4_1 x3_4_2) x3_5 x3_6))]), .box [.d (.s x1_0), .sl 6 0, .d (.i .i64 x30_0), .d (.s x30_1), .d (.sl 3 (eTypes x30_2)), .sl 8 0, .d (.b x36_0), .d (.b b33_3), .d (.i .i64 b33_4), .d (.s b33_5), .d (.sl 3 (eTypes b33_6)), .sl 4 0], .arr 9 1 0 (eStrs [[97]]), .frz 27 3 0 (eTypes [(TType.mk x29_0 x29_1 x29_2)]), .arr 69 4 0 (eBounds [(TBound.mk x1_0 (TType.mk x31_0 x31_1 x31_2))]), .frz 9 1 0 (eStrs [[97], [99]])]) [0] (w_l1Pick (Tl1Cur.mk x37_1_0 x37_1_1 x37_1_2) [[97], [99]] hx41) VY_e)) ?_
                refine VT_h1 (VY_lb (T := 24) (us := eStrs [x41_0]) VY_e) ?_
                refine VT_h1 (VY_apa (T := 24) g42 VY_e) ?_
                refine goT ?_
                refine VT_nil ?_
                exact R_pk 1 [0, 1, 2, 3, 4, 5, 6, 7, 8, 9, 10]
              refine VT_h1 (VY_frz 9 rfl rfl (VY_cG (sv := .d (.s x41_0)) (L' := [.box [.d (.sl 1 (eBytes x41_1_0)), .d (.i .i64 x41_1_1), .d (.i .i64 x41_1_2)], .box [.d (.s []), .nilsl, .d (.i .i64 0), .d (.s []), .nilsl, .nilsl, .d (.b false), .d (.b false), .d (.i .i64 0), .d (.s []), .nilsl, .nilsl], .frz 9 1 0 (eStrs [[115, 104, 111, 119], [101, 113], [97, 100, 100]]), .frz 9 1 0 (eStrs [[120]]), .arr 65 11 0 (eMethods [(TMethod.mk [109] [[120]] (TExpr.mk x3_0 x3_1 x3_2 x3_3 (TType.mk x3_4_0 x3_4_1 x3_4_2) x3_5 x3_6))]), .box [.d (.s x1_0), .sl 6 0, .d (.i .i64 x30_0), .d (.s x30_1), .d (.sl 3 (eTypes x30_2)), .sl 8 0, .d (.b x36_0), .d (.b b33_3), .d (.i .i64 b33_4), .d (.s b33_5), .d (.sl 3 (eTypes b33_6)), .sl 4 0], .arr 9 1 0 (eStrs [[97]]), .frz 27 3 0 (eTypes [(TType.mk x29_0 x29_1 x29_2)]), .arr 69 4 0 (eBounds [(TBound.mk x1_0 (TType.mk x31_0 x31_1 x31_2))]), .frz 9 1 0 (eStrs [[97], [99]])]) [0] (w_l1Pick (Tl1Cur.mk x37_1_0 x37_1_1 x37_1_2) [[97], [99]] hx41) VY_e)) ?_
              refine VT_h (VY_dh VY_e) ?_ ?_
              · refine VT_h1 (VY_lb (T := 24) (us := eStrs [x41_0]) VY_e) ?_
                refine VT_h1 (VY_apa (T := 24) g42 VY_e) ?_
                refine goT ?_
                refine VT_nil ?_
                exact R_pk 1 [0, 1, 2, 3, 4, 5, 6, 7, 8, 9, 10]
              refine VT_h1 (VY_lb (T := 24) (us := eStrs [x41_0]) VY_e) ?_
              refine VT_h1 (VY_dh VY_e) ?_
              refine VT_h1 (VY_apa (T := 24) g42 VY_e) ?_
              refine goT ?_
              refine VT_nil ?_
              exact R_pk 1 [0, 1, 2, 3, 4, 5, 6, 7, 8, 9, 10]
            refine VT_h1 (VY_lb (T := 24) (us := eStrs [[97], [99]]) VY_e) ?_
            refine VT_h (VY_dh VY_e) ?_ ?_
            · as_aux_lemma =>
              refine VT_h (VY_dh VY_e) ?_ ?_
              · refine VT_h1 (VY_frz 9 rfl rfl (VY_cG (sv := .d (.s x41_0)) (L' := [.box [.d (.sl 1 (eBytes x41_1_0)), .d (.i .i64 x41_1_1), .d (.i .i64 x41_1_2)], .box [.d (.s []), .nilsl, .d (.i .i64 0), .d (.s []), .nilsl, .nilsl, .d (.b false), .d (.b false), .d (.i .i64 0), .d (.s []), .nilsl, .nilsl], .frz 9 1 0 (eStrs [[115, 104, 111, 119], [101, 113], [97, 100, 100]]), .frz 9 1 0 (eStrs [[120]]), .arr 65 11 0 (eMethods [(TMethod.mk [109] [[120]] (TExpr.mk x3_0 x3_1 x3_2 x3_3 (TType.mk x3_4_0 x3_4_1 x3_4_2) x3_5 x3_6))]), .box [.d (.s x1_0), .sl 6 0, .d (.i .i64 x30_0), .d (.s x30_1), .d (.sl 3 (eTypes x30_2)), .sl 8 0, .d (.b x36_0), .d (.b b33_3), .d (.i .i64 b33_4), .d (.s b33_5), .d (.sl 3 (eTypes b33_6)), .sl 4 0], .arr 9 1 0 (eStrs [[97]]), .frz 27 3 0 (eTypes [(TType.mk x29_0 x29_1 x29_2)]), .arr 69 4 0 (eBounds [(TBound.mk x1_0 (TType.mk x31_0 x31_1 x31_2))]), .frz 9 1 0 (eStrs [[97], [99]])]) [0] (w_l1Pick (Tl1Cur.mk x37_1_0 x37_1_1 x37_1_2) [[97], [99]] hx41) VY_e)) ?_
                refine VT_h1 (VY_lb (T := 24) (us := eStrs [x41_0]) VY_e) ?_
                refine VT_h1 (VY_apa (T := 24) g42 VY_e) ?_
                refine goT ?_
                refine VT_nil ?_
                exact R_pk 1 [0, 1, 2, 3, 4, 5, 6, 7, 8, 9, 10]
              refine VT_h1 (VY_frz 9 rfl rfl (VY_cG (sv := .d (.s x41_0)) (L' := [.box [.d (.sl 1 (eBytes x41_1_0)), .d (.i .i64 x41_1_1), .d (.i .i64 x41_1_2)], .box [.d (.s []), .nilsl, .d (.i .i64 0), .d (.s []), .nilsl, .nilsl, .d (.b false), .d (.b false), .d (.i .i64 0), .d (.s []), .nilsl, .nilsl], .frz 9 1 0 (eStrs [[115, 104, 111, 119], [101, 113], [97, 100, 100]]), .frz 9 1 0 (eStrs [[120]]), .arr 65 11 0 (eMethods [(TMethod.mk [109] [[120]] (TExpr.mk x3_0 x3_1 x3_2 x3_3 (TType.mk x3_4_0 x3_4_1 x3_4_2) x3_5 x3_6))]), .box [.d (.s x1_0), .sl 6 0, .d (.i .i64 x30_0), .d (.s x30_1), .d (.sl 3 (eTypes x30_2)), .sl 8 0, .d (.b x36_0), .d (.b b33_3), .d (.i .i64 b33_4), .d (.s b33_5), .d (.sl 3 (eTypes b33_6)), .sl 4 0], .arr 9 1 0 (eStrs [[97]]), .frz 27 3 0 (eTypes [(TType.mk x29_0 x29_1 x29_2)]), .arr 69 4 0 (eBounds [(TBound.mk x1_0 (TType.mk x31_0 x31_1 x31_2))]), .frz 9 1 0 (eStrs [[97], [99]])]) [0] (w_l1Pick (Tl1Cur.mk x37_1_0 x37_1_1 x37_1_2) [[97], [99]] hx41) VY_e)) ?_
              refine VT_h (VY_dh VY_e) ?_ ?_
              · refine VT_h1 (VY_lb (T := 24) (us := eStrs [x41_0]) VY_e) ?_
                refine VT_h1 (VY_apa (T := 24) g42 VY_e) ?_
                refine goT ?_
                refine VT_nil ?_
                exact R_pk 1 [0, 1, 2, 3, 4, 5, 6, 7, 8, 9, 10]
              refine VT_h1 (VY_lb (T := 24) (us := eStrs [x41_0]) VY_e) ?_
              refine VT_h1 (VY_dh VY_e) ?_
              refine VT_h1 (VY_apa (T := 24) g42 VY_e) ?_
              refine goT ?_
              refine VT_nil ?_
              exact R_pk 1 [0, 1, 2, 3, 4, 5, 6, 7, 8, 9, 10]
            refine VT_h1 (VY_frz 9 rfl rfl (VY_cG (sv := .d (.s x41_0)) (L' := [.box [.d (.sl 1 (eBytes x41_1_0)), .d (.i .i64 x41_1_1), .d (.i .i64 x41_1_2)], .box [.d (.s []), .nilsl, .d (.i .i64 0), .d (.s []), .nilsl, .nilsl, .d (.b false), .d (.b false), .d (.i .i64 0), .d (.s []), .nilsl, .nilsl], .frz 9 1 0 (eStrs [[115, 104, 111, 119], [101, 113], [97, 100, 100]]), .frz 9 1 0 (eStrs [[120]]), .arr 65 11 0 (eMethods [(TMethod.mk [109] [[120]] (TExpr.mk x3_0 x3_1 x3_2 x3_3 (TType.mk x3_4_0 x3_4_1 x3_4_2) x3_5 x3_6))]), .box [.d (.s x1_0), .sl 6 0, .d (.i .i64 x30_0), .d (.s x30_1), .d (.sl 3 (eTypes x30_2)), .sl 8 0, .d (.b x36_0), .d (.b b33_3), .d (.i .i64 b33_4), .d (.s b33_5), .d (.sl 3 (eTypes b33_6)), .sl 4 0], .arr 9 1 0 (eStrs [[97]]), .frz 27 3 0 (eTypes [(TType.mk x29_0 x29_1 x29_2)]), .arr 69 4 0 (eBounds [(TBound.mk x1_0 (TType.mk x31_0 x31_1 x31_2))]), .frz 9 1 0 (eStrs [[97], [99]])]) [0] (w_l1Pick (Tl1Cur.mk x37_1_0 x37_1_1 x37_1_2) [[97], [99]] hx41) VY_e)) ?_
            refine VT_h (VY_dh VY_e) ?_ ?_
            · as_aux_lemma =>
              refine VT_h (VY_dh VY_e) ?_ ?_
              · refine VT_h1 (VY_lb (T := 24) (us := eStrs [x41_0]) VY_e) ?_
                refine VT_h1 (VY_apa (T := 24) g42 VY_e) ?_
                refine goT ?_
                refine VT_nil ?_
                exact R_pk 1 [0, 1, 2, 3, 4, 5, 6, 7, 8, 9, 10]
              refine VT_h1 (VY_lb (T := 24) (us := eStrs [x41_0]) VY_e) ?_
              refine VT_h1 (VY_dh VY_e) ?_
              refine VT_h1 (VY_apa (T := 24) g42 VY_e) ?_
              refine goT ?_
              refine VT_nil ?_
              exact R_pk 1 [0, 1, 2, 3, 4, 5, 6, 7, 8, 9, 10]
            refine VT_h1 (VY_lb (T := 24) (us := eStrs [x41_0]) VY_e) ?_
            refine VT_h1 (VY_dh VY_e) ?_
            refine VT_h1 (VY_dh VY_e) ?_
            refine VT_h1 (VY_apa (T := 24) g42 VY_e) ?_
            refine goT ?_
            refine VT_nil ?_
            exact R_pk 1 [0, 1, 2, 3, 4, 5, 6, 7, 8, 9, 10]
          refine goL ?_
          refine V_freeze 6 rfl rfl ?_
          refine V_freeze 8 rfl rfl ?_
          refine V_freeze 4 rfl rfl ?_
          refine V_ret ?_
          replace h := Option.some.inj h
          subst h
          exact R_rF [.d (.st [.s x1_0, .sl 1 (eStrs ([[97]] ++ [x41_0])), .st [.i .i64 x30_0, .s x30_1, .sl 3 (eTypes x30_2)], .sl 4 (eBounds [(TBound.mk x1_0 (TType.mk x31_0 x31_1 x31_2))]), .b x36_0, .b b33_3, .st [.i .i64 b33_4, .s b33_5, .sl 3 (eTypes b33_6)], .sl 11 (eMethods [(TMethod.mk [109] [[120]] (TExpr.mk x3_0 x3_1 x3_2 x3_3 (TType.mk x3_4_0 x3_4_1 x3_4_2) x3_5 x3_6))])])] [.box [.d (.sl 1 (eBytes x41_1_0)), .d (.i .i64 x41_1_1), .d (.i .i64 x41_1_2)]] ⟨rfl, rfl⟩
        · as_aux_lemma =>
          replace h := cnd_f c40 h
          refine goL ?_
          refine V_cb (fun c43 => ?_) (fun c43 => ?_)
          · as_aux_lemma =>
            replace h := cnd_t c43 h
            obtain ⟨x44, hx44, h⟩ := bnd_s h
            obtain ⟨⟨x44_0_0, x44_0_1, x44_0_2⟩, ⟨x44_1_0, x44_1_1, x44_1_2⟩⟩ := x44
            obtain ⟨g45, h⟩ := gd_s h
            refine V_drawTJ (P := Try.prog) Mix.h (.q 2 (.h 0 (.h 1 (.h 3 (.q 4 (.h 5 (.h 6 (.q 7 (.h 8 .nil .nil)) .nil) .nil)) .nil) (.h 3 (.q 4 (.h 1 (.h 5 (.h 6 (.q 7 (.h 8 .nil .nil)) .nil) .nil) (.h 5 (.h 1 (.h 6 (.q 7 (.h 8 .nil .nil)) .nil) .nil) .nil))) .nil)) (.h 3 (.q 4 (.h 0 (.h 1 (.h 5 (.h 6 (.q 7 (.h 8 .nil .nil)) .nil) .nil) (.h 5 (.h 1 (.h 6 (.q 7 (.h 8 .nil .nil)) .nil) .nil) .nil)) (.h 5 (.h 0 (.h 1 (.h 6 (.q 7 (.h 8 .nil .nil)) .nil) .nil) .nil) .nil))) .nil))) ⟨[(2, .ptr 1 0), (3, .ptr 5 0)], [.box [.d (.sl 1 (eBytes x44_1_0)), .d (.i .i64 x44_1_1), .d (.i .i64 x44_1_2)], .box [.d (.s []), .nilsl, .d (.i .i64 0), .d (.s []), .nilsl, .nilsl, .d (.b false), .d (.b false), .d (.i .i64 0), .d (.s []), .nilsl, .nilsl], .frz 9 1 0 (eStrs [[115, 104, 111, 119], [101, 113], [97, 100, 100]]), .frz 9 1 0 (eStrs [[120]]), .arr 65 11 0 (eMethods [(TMethod.mk [109] [[120]] (TExpr.mk x3_0 x3_1 x3_2 x3_3 (TType.mk x3_4_0 x3_4_1 x3_4_2) x3_5 x3_6))]), .box [.d (.s x1_0), .sl 6 0, .d (.i .i64 x30_0), .d (.s x30_1), .d (.sl 3 (eTypes x30_2)), .sl 8 (0 + 1), .d (.b x36_0), .d (.b b33_3), .d (.i .i64 b33_4), .d (.s b33_5), .d (.sl 3 (eTypes b33_6)), .sl 4 0], .arr 9 1 0 (eStrs [[97]]), .frz 27 3 0 (eTypes [(TType.mk x29_0 x29_1 x29_2)]), .arr 69 4 (0 + 1) (eBounds ([(TBound.mk x1_0 (TType.mk x31_0 x31_1 x31_2))] ++ [(TBound.mk [101, 113] (TType.mk x44_0_0 x44_0_1 x44_0_2))])), .arr 69 4 0 (eBounds [(TBound.mk [101, 113] (TType.mk x44_0_0 x44_0_1 x44_0_2))])], Try.f17.ntmps⟩ (by kernel_rfl) ?_ ?_
            · as_aux_lemma =>
              refine goT ?_
              refine VT_h (VY_dh VY_e) ?_ ?_
              · as_aux_lemma =>
                refine VT_h (VY_dh VY_e) ?_ ?_
                · refine VT_h1 (VY_cG (sv := .d (.st [.i .i64 x44_0_0, .s x44_0_1, .sl 3 (eTypes x44_0_2)])) (L' := [.box [.d (.sl 1 (eBytes x44_1_0)), .d (.i .i64 x44_1_1), .d (.i .i64 x44_1_2)], .box [.d (.s []), .nilsl, .d (.i .i64 0), .d (.s []), .nilsl, .nilsl, .d (.b false), .d (.b false), .d (.i .i64 0), .d (.s []), .nilsl, .nilsl], .frz 9 1 0 (eStrs [[115, 104, 111, 119], [101, 113], [97, 100, 100]]), .frz 9 1 0 (eStrs [[120]]), .arr 65 11 0 (eMethods [(TMethod.mk [109] [[120]] (TExpr.mk x3_0 x3_1 x3_2 x3_3 (TType.mk x3_4_0 x3_4_1 x3_4_2) x3_5 x3_6))]), .box [.d (.s x1_0), .sl 6 0, .d (.i .i64 x30_0), .d (.s x30_1), .d (.sl 3 (eTypes x30_2)), .sl 8 0, .d (.b x36_0), .d (.b b33_3), .d (.i .i64 b33_4), .d (.s b33_5), .d (.sl 3 (eTypes b33_6)), .sl 4 0], .arr 9 1 0 (eStrs [[97]]), .frz 27 3 0 (eTypes [(TType.mk x29_0 x29_1 x29_2)]), .arr 69 4 0 (eBounds [(TBound.mk x1_0 (TType.mk x31_0 x31_1 x31_2))])]) [0] (w_l4Free (Tl1Cur.mk x37_1_0 x37_1_1 x37_1_2) 1 hx44) VY_e) ?_
                  refine goT ?_
                  refine VT_h1 (VY_lb (T := 28) (us := eBounds [(TBound.mk [101, 113] (TType.mk x44_0_0 x44_0_1 x44_0_2))]) VY_e) ?_
                  refine VT_h1 (VY_apa (T := 28) g45 VY_e) ?_
                  refine goT ?_
                  refine VT_nil ?_
                  exact R_pk 1 [0, 1, 2, 3, 4, 5, 6, 7, 8, 9]
                refine VT_h1 (VY_cG (sv := .d (.st [.i .i64 x44_0_0, .s x44_0_1, .sl 3 (eTypes x44_0_2)])) (L' := [.box [.d (.sl 1 (eBytes x44_1_0)), .d (.i .i64 x44_1_1), .d (.i .i64 x44_1_2)], .box [.d (.s []), .nilsl, .d (.i .i64 0), .d (.s []), .nilsl, .nilsl, .d (.b false), .d (.b false), .d (.i .i64 0), .d (.s []), .nilsl, .nilsl], .frz 9 1 0 (eStrs [[115, 104, 111, 119], [101, 113], [97, 100, 100]]), .frz 9 1 0 (eStrs [[120]]), .arr 65 11 0 (eMethods [(TMethod.mk [109] [[120]] (TExpr.mk x3_0 x3_1 x3_2 x3_3 (TType.mk x3_4_0 x3_4_1 x3_4_2) x3_5 x3_6))]), .box [.d (.s x1_0), .sl 6 0, .d (.i .i64 x30_0), .d (.s x30_1), .d (.sl 3 (eTypes x30_2)), .sl 8 0, .d (.b x36_0), .d (.b b33_3), .d (.i .i64 b33_4), .d (.s b33_5), .d (.sl 3 (eTypes b33_6)), .sl 4 0], .arr 9 1 0 (eStrs [[97]]), .frz 27 3 0 (eTypes [(TType.mk x29_0 x29_1 x29_2)]), .arr 69 4 0 (eBounds [(TBound.mk x1_0 (TType.mk x31_0 x31_1 x31_2))])]) [0] (w_l4Free (Tl1Cur.mk x37_1_0 x37_1_1 x37_1_2) 1 hx44) VY_e) ?_
                refine goT ?_
                refine VT_h (VY_dh VY_e) ?_ ?_
                · refine VT_h1 (VY_lb (T := 28) (us := eBounds [(TBound.mk [101, 113] (TType.mk x44_0_0 x44_0_1 x44_0_2))]) VY_e) ?_
                  refine VT_h1 (VY_apa (T := 28) g45 VY_e) ?_
                  refine goT ?_
                  refine VT_nil ?_
                  exact R_pk 1 [0, 1, 2, 3, 4, 5, 6, 7, 8, 9]
                refine VT_h1 (VY_lb (T := 28) (us := eBounds [(TBound.mk [101, 113] (TType.mk x44_0_0 x44_0_1 x44_0_2))]) VY_e) ?_
                refine VT_h1 (VY_dh VY_e) ?_
                refine VT_h1 (VY_apa (T := 28) g45 VY_e) ?_
                refine goT ?_
                refine VT_nil ?_
                exact R_pk 1 [0, 1, 2, 3, 4, 5, 6, 7, 8, 9]
              refine VT_h1 (VY_cG (sv := .d (.st [.i .i64 x44_0_0, .s x44_0_1, .sl 3 (eTypes x44_0_2)])) (L' := [.box [.d (.sl 1 (eBytes x44_1_0)), .d (.i .i64 x44_1_1), .d (.i .i64 x44_1_2)], .box [.d (.s []), .nilsl, .d (.i .i64 0), .d (.s []), .nilsl, .nilsl, .d (.b false), .d (.b false), .d (.i .i64 0), .d (.s []), .nilsl, .nilsl], .frz 9 1 0 (eStrs [[115, 104, 111, 119], [101, 113], [97, 100, 100]]), .frz 9 1 0 (eStrs [[120]]), .arr 65 11 0 (eMethods [(TMethod.mk [109] [[120]] (TExpr.mk x3_0 x3_1 x3_2 x3_3 (TType.mk x3_4_0 x3_4_1 x3_4_2) x3_5 x3_6))]), .box [.d (.s x1_0), .sl 6 0, .d (.i .i64 x30_0), .d (.s x30_1), .d (.sl 3 (eTypes x30_2)), .sl 8 0, .d (.b x36_0), .d (.b b33_3), .d (.i .i64 b33_4), .d (.s b33_5), .d (.sl 3 (eTypes b33_6)), .sl 4 0], .arr 9 1 0 (eStrs [[97]]), .frz 27 3 0 (eTypes [(TType.mk x29_0 x29_1 x29_2)]), .arr 69 4 0 (eBounds [(TBound.mk x1_0 (TType.mk x31_0 x31_1 x31_2))])]) [0] (w_l4Free (Tl1Cur.mk x37_1_0 x37_1_1 x37_1_2) 1 hx44) VY_e) ?_
              refine goT ?_
              refine VT_h (VY_dh VY_e) ?_ ?_
              · as_aux_lemma =>
                refine VT_h (VY_dh VY_e) ?_ ?_
                · refine VT_h1 (VY_lb (T := 28) (us := eBounds [(TBound.mk [101, 113] (TType.mk x44_0_0 x44_0_1 x44_0_2))]) VY_e) ?_
                  refine VT_h1 (VY_apa (T := 28) g45 VY_e) ?_
                  refine goT ?_
                  refine VT_nil ?_
                  exact R_pk 1 [0, 1, 2, 3, 4, 5, 6, 7, 8, 9]
                refine VT_h1 (VY_lb (T := 28) (us := eBounds [(TBound.mk [101, 113] (TType.mk x44_0_0 x44_0_1 x44_0_2))]) VY_e) ?_
                refine VT_h1 (VY_dh VY_e) ?_
                refine VT_h1 (VY_apa (T := 28) g45 VY_e) ?_
                refine goT ?_
                refine VT_nil ?_
                exact R_pk 1 [0, 1, 2, 3, 4, 5, 6, 7, 8, 9]
              refine VT_h1 (VY_lb (T := 28) (us := eBounds [(TBound.mk [101, 113] (TType.mk x44_0_0 x44_0_1 x44_0_2))]) VY_e) ?_
              refine VT_h1 (VY_dh VY_e) ?_
              refine VT_h1 (VY_dh VY_e) ?_
              refine VT_h1 (VY_apa (T := 28) g45 VY_e) ?_
              refine goT ?_
              refine VT_nil ?_
              exact R_pk 1 [0, 1, 2, 3, 4, 5, 6, 7, 8, 9]
            refine goL ?_
            refine V_freeze 6 rfl rfl ?_
            refine V_freeze 8 rfl rfl ?_
            refine V_freeze 4 rfl rfl ?_
            refine V_ret ?_
            replace h := Option.some.inj h
            subst h
            exact R_rF [.d (.st [.s x1_0, .sl 1 (eStrs [[97]]), .st [.i .i64 x30_0, .s x30_1, .sl 3 (eTypes x30_2)], .sl 4 (eBounds ([(TBound.mk x1_0 (TType.mk x31_0 x31_1 x31_2))] ++ [(TBound.mk [101, 113] (TType.mk x44_0_0 x44_0_1 x44_0_2))])), .b x36_0, .b b33_3, .st [.i .i64 b33_4, .s b33_5, .sl 3 (eTypes b33_6)], .sl 11 (eMethods [(TMethod.mk [109] [[120]] (TExpr.mk x3_0 x3_1 x3_2 x3_3 (TType.mk x3_4_0 x3_4_1 x3_4_2) x3_5 x3_6))])])] [.box [.d (.sl 1 (eBytes x44_1_0)), .d (.i .i64 x44_1_1), .d (.i .i64 x44_1_2)]] ⟨rfl, rfl⟩
          · as_aux_lemma =>
            replace h := cnd_f c43 h
            refine goL ?_
            refine V_cb (fun c46 => ?_) (fun c46 => ?_)
            · as_aux_lemma =>
              replace h := cnd_t c46 h
              obtain ⟨x47, hx47, h⟩ := bnd_s h
              obtain ⟨⟨x47_0_0, x47_0_1, x47_0_2, x47_0_3, ⟨x47_0_4_0, x47_0_4_1, x47_0_4_2⟩, x47_0_5, x47_0_6⟩, ⟨x47_1_0, x47_1_1, x47_1_2⟩⟩ := x47
              obtain ⟨x48, hx48, h⟩ := bnd_s h
              obtain ⟨hx480, hx48⟩ := at_s hx48
              obtain ⟨x48_0, x48_1, ⟨x48_2_0, x48_2_1, x48_2_2, x48_2_3, ⟨x48_2_4_0, x48_2_4_1, x48_2_4_2⟩, x48_2_5, x48_2_6⟩⟩ := x48
              refine V_drawTJ (P := Try.prog) Mix.h (.q 2 (.h 0 (.h 1 (.h 3 (.h 4 (.h 5 (.h 6 (.h 7 .nil .nil) .nil) .nil) .nil) .nil) (.h 3 (.h 1 (.h 4 (.h 5 (.h 6 (.h 7 .nil .nil) .nil) .nil) .nil) (.h 4 (.h 1 (.h 5 (.h 6 (.h 7 .nil .nil) .nil) .nil) .nil) .nil)) .nil)) (.h 3 (.h 0 (.h 1 (.h 4 (.h 5 (.h 6 (.h 7 .nil .nil) .nil) .nil) .nil) (.h 4 (.h 1 (.h 5 (.h 6 (.h 7 .nil .nil) .nil) .nil) .nil) .nil)) (.h 4 (.h 0 (.h 1 (.h 5 (.h 6 (.h 7 .nil .nil) .nil) .nil) .nil) .nil) .nil)) .nil))) ⟨[(2, .ptr 1 0), (3, .ptr 5 0)], [.box [.d (.sl 1 (eBytes x47_1_0)), .d (.i .i64 x47_1_1), .d (.i .i64 x47_1_2)], .box [.d (.s []), .nilsl, .d (.i .i64 0), .d (.s []), .nilsl, .nilsl, .d (.b false), .d (.b false), .d (.i .i64 0), .d (.s []), .nilsl, .nilsl], .frz 9 1 0 (eStrs [[115, 104, 111, 119], [101, 113], [97, 100, 100]]), .frz 9 1 0 (eStrs [[120]]), .arr 65 11 0 (eMethods ([(TMethod.mk [109] [[120]] (TExpr.mk x3_0 x3_1 x3_2 x3_3 (TType.mk x3_4_0 x3_4_1 x3_4_2) x3_5 x3_6))].set 0 (TMethod.mk x48_0 x48_1 (TExpr.mk x47_0_0 x47_0_1 x47_0_2 x47_0_3 (TType.mk x47_0_4_0 x47_0_4_1 x47_0_4_2) x47_0_5 x47_0_6)))), .box [.d (.s x1_0), .sl 6 0, .d (.i .i64 x30_0), .d (.s x30_1), .d (.sl 3 (eTypes x30_2)), .sl 8 0, .d (.b x36_0), .d (.b b33_3), .d (.i .i64 b33_4), .d (.s b33_5), .d (.sl 3 (eTypes b33_6)), .sl 4 0], .arr 9 1 0 (eStrs [[97]]), .frz 27 3 0 (eTypes [(TType.mk x29_0 x29_1 x29_2)]), .arr 69 4 0 (eBounds [(TBound.mk x1_0 (TType.mk x31_0 x31_1 x31_2))]), .frz 9 1 0 (eStrs [[120], [121]])], Try.f17.ntmps⟩ (by kernel_rfl) ?_ ?_
              · as_aux_lemma =>
                refine goT ?_
                refine VT_h (VY_dh VY_e) ?_ ?_
                · as_aux_lemma =>
                  refine VT_h (VY_dh VY_e) ?_ ?_
                  · refine VT_h1 (VY_lb (T := 24) (us := eStrs [[120], [121]]) VY_e) ?_
                    refine VT_h1 (VY_frz 9 rfl rfl (VY_cG (sv := .d (.st [.i .i64 x47_0_0, .s x47_0_1, .s x47_0_2, .i .i64 x47_0_3, .st [.i .i64 x47_0_4_0, .s x47_0_4_1, .sl 3 (eTypes x47_0_4_2)], .sl 9 (eExprs x47_0_5), .sl 11 (eArms x47_0_6)])) (L' := [.box [.d (.sl 1 (eBytes x47_1_0)), .d (.i .i64 x47_1_1), .d (.i .i64 x47_1_2)], .box [.d (.s []), .nilsl, .d (.i .i64 0), .d (.s []), .nilsl, .nilsl, .d (.b false), .d (.b false), .d (.i .i64 0), .d (.s []), .nilsl, .nilsl], .frz 9 1 0 (eStrs [[115, 104, 111, 119], [101, 113], [97, 100, 100]]), .frz 9 1 0 (eStrs [[120]]), .arr 65 11 0 (eMethods [(TMethod.mk [109] [[120]] (TExpr.mk x3_0 x3_1 x3_2 x3_3 (TType.mk x3_4_0 x3_4_1 x3_4_2) x3_5 x3_6))]), .box [.d (.s x1_0), .sl 6 0, .d (.i .i64 x30_0), .d (.s x30_1), .d (.sl 3 (eTypes x30_2)), .sl 8 0, .d (.b x36_0), .d (.b b33_3), .d (.i .i64 b33_4), .d (.s b33_5), .d (.sl 3 (eTypes b33_6)), .sl 4 0], .arr 9 1 0 (eStrs [[97]]), .frz 27 3 0 (eTypes [(TType.mk x29_0 x29_1 x29_2)]), .arr 69 4 0 (eBounds [(TBound.mk x1_0 (TType.mk x31_0 x31_1 x31_2))]), .frz 9 1 0 (eStrs [[120], [121]])]) [0] (s_l11Expr 8 (Tl1Cur.mk x37_1_0 x37_1_1 x37_1_2) [[120], [121]] 2 hx47) VY_e)) ?_
                    refine VT_h1 (VY_ixa 0 (List.getElem?_eq_some_iff.1 hx48).1 VY_e) ?_
                    refine VT_h1 (VY_fla VY_e) ?_
                    refine VT_h1 (VY_stm [(.s x48_0), (.sl 1 (eStrs x48_1))] [] (.st [.i .i64 x48_2_0, .s x48_2_1, .s x48_2_2, .i .i64 x48_2_3, .st [.i .i64 x48_2_4_0, .s x48_2_4_1, .sl 3 (eTypes x48_2_4_2)], .sl 9 (eExprs x48_2_5), .sl 11 (eArms x48_2_6)]) (.st [.i .i64 x47_0_0, .s x47_0_1, .s x47_0_2, .i .i64 x47_0_3, .st [.i .i64 x47_0_4_0, .s x47_0_4_1, .sl 3 (eTypes x47_0_4_2)], .sl 9 (eExprs x47_0_5), .sl 11 (eArms x47_0_6)]) (TMethod.mk x48_0 x48_1 (TExpr.mk x48_2_0 x48_2_1 x48_2_2 x48_2_3 (TType.mk x48_2_4_0 x48_2_4_1 x48_2_4_2) x48_2_5 x48_2_6)) (TMethod.mk x48_0 x48_1 (TExpr.mk x47_0_0 x47_0_1 x47_0_2 x47_0_3 (TType.mk x47_0_4_0 x47_0_4_1 x47_0_4_2) x47_0_5 x47_0_6)) hx48 VY_e) ?_
                    refine VT_nil ?_
                    exact R_pk 1 [0, 1, 2, 3, 4, 5, 6, 7, 8, 9]
                  refine VT_h1 (VY_lb (T := 24) (us := eStrs [[120], [121]]) VY_e) ?_
                  refine VT_h (VY_dh VY_e) ?_ ?_
                  · refine VT_h1 (VY_frz 9 rfl rfl (VY_cG (sv := .d (.st [.i .i64 x47_0_0, .s x47_0_1, .s x47_0_2, .i .i64 x47_0_3, .st [.i .i64 x47_0_4_0, .s x47_0_4_1, .sl 3 (eTypes x47_0_4_2)], .sl 9 (eExprs x47_0_5), .sl 11 (eArms x47_0_6)])) (L' := [.box [.d (.sl 1 (eBytes x47_1_0)), .d (.i .i64 x47_1_1), .d (.i .i64 x47_1_2)], .box [.d (.s []), .nilsl, .d (.i .i64 0), .d (.s []), .nilsl, .nilsl, .d (.b false), .d (.b false), .d (.i .i64 0), .d (.s []), .nilsl, .nilsl], .frz 9 1 0 (eStrs [[115, 104, 111, 119], [101, 113], [97, 100, 100]]), .frz 9 1 0 (eStrs [[120]]), .arr 65 11 0 (eMethods [(TMethod.mk [109] [[120]] (TExpr.mk x3_0 x3_1 x3_2 x3_3 (TType.mk x3_4_0 x3_4_1 x3_4_2) x3_5 x3_6))]), .box [.d (.s x1_0), .sl 6 0, .d (.i .i64 x30_0), .d (.s x30_1), .d (.sl 3 (eTypes x30_2)), .sl 8 0, .d (.b x36_0), .d (.b b33_3), .d (.i .i64 b33_4), .d (.s b33_5), .d (.sl 3 (eTypes b33_6)), .sl 4 0], .arr 9 1 0 (eStrs [[97]]), .frz 27 3 0 (eTypes [(TType.mk x29_0 x29_1 x29_2)]), .arr 69 4 0 (eBounds [(TBound.mk x1_0 (TType.mk x31_0 x31_1 x31_2))]), .frz 9 1 0 (eStrs [[120], [121]])]) [0] (s_l11Expr 8 (Tl1Cur.mk x37_1_0 x37_1_1 x37_1_2) [[120], [121]] 2 hx47) VY_e)) ?_
                    refine VT_h1 (VY_ixa 0 (List.getElem?_eq_some_iff.1 hx48).1 VY_e) ?_
                    refine VT_h1 (VY_fla VY_e) ?_
                    refine VT_h1 (VY_stm [(.s x48_0), (.sl 1 (eStrs x48_1))] [] (.st [.i .i64 x48_2_0, .s x48_2_1, .s x48_2_2, .i .i64 x48_2_3, .st [.i .i64 x48_2_4_0, .s x48_2_4_1, .sl 3 (eTypes x48_2_4_2)], .sl 9 (eExprs x48_2_5), .sl 11 (eArms x48_2_6)]) (.st [.i .i64 x47_0_0, .s x47_0_1, .s x47_0_2, .i .i64 x47_0_3, .st [.i .i64 x47_0_4_0, .s x47_0_4_1, .sl 3 (eTypes x47_0_4_2)], .sl 9 (eExprs x47_0_5), .sl 11 (eArms x47_0_6)]) (TMethod.mk x48_0 x48_1 (TExpr.mk x48_2_0 x48_2_1 x48_2_2 x48_2_3 (TType.mk x48_2_4_0 x48_2_4_1 x48_2_4_2) x48_2_5 x48_2_6)) (TMethod.mk x48_0 x48_1 (TExpr.mk x47_0_0 x47_0_1 x47_0_2 x47_0_3 (TType.mk x47_0_4_0 x47_0_4_1 x47_0_4_2) x47_0_5 x47_0_6)) hx48 VY_e) ?_
                    refine VT_nil ?_
                    exact R_pk 1 [0, 1, 2, 3, 4, 5, 6, 7, 8, 9]
                  refine VT_h1 (VY_frz 9 rfl rfl (VY_cG (sv := .d (.st [.i .i64 x47_0_0, .s x47_0_1, .s x47_0_2, .i .i64 x47_0_3, .st [.i .i64 x47_0_4_0, .s x47_0_4_1, .sl 3 (eTypes x47_0_4_2)], .sl 9 (eExprs x47_0_5), .sl 11 (eArms x47_0_6)])) (L' := [.box [.d (.sl 1 (eBytes x47_1_0)), .d (.i .i64 x47_1_1), .d (.i .i64 x47_1_2)], .box [.d (.s []), .nilsl, .d (.i .i64 0), .d (.s []), .nilsl, .nilsl, .d (.b false), .d (.b false), .d (.i .i64 0), .d (.s []), .nilsl, .nilsl], .frz 9 1 0 (eStrs [[115, 104, 111, 119], [101, 113], [97, 100, 100]]), .frz 9 1 0 (eStrs [[120]]), .arr 65 11 0 (eMethods [(TMethod.mk [109] [[120]] (TExpr.mk x3_0 x3_1 x3_2 x3_3 (TType.mk x3_4_0 x3_4_1 x3_4_2) x3_5 x3_6))]), .box [.d (.s x1_0), .sl 6 0, .d (.i .i64 x30_0), .d (.s x30_1), .d (.sl 3 (eTypes x30_2)), .sl 8 0, .d (.b x36_0), .d (.b b33_3), .d (.i .i64 b33_4), .d (.s b33_5), .d (.sl 3 (eTypes b33_6)), .sl 4 0], .arr 9 1 0 (eStrs [[97]]), .frz 27 3 0 (eTypes [(TType.mk x29_0 x29_1 x29_2)]), .arr 69 4 0 (eBounds [(TBound.mk x1_0 (TType.mk x31_0 x31_1 x31_2))]), .frz 9 1 0 (eStrs [[120], [121]])]) [0] (s_l11Expr 8 (Tl1Cur.mk x37_1_0 x37_1_1 x37_1_2) [[120], [121]] 2 hx47) VY_e)) ?_
                  refine VT_h1 (VY_dh VY_e) ?_
                  refine VT_h1 (VY_ixa 0 (List.getElem?_eq_some_iff.1 hx48).1 VY_e) ?_
                  refine VT_h1 (VY_fla VY_e) ?_
                  refine VT_h1 (VY_stm [(.s x48_0), (.sl 1 (eStrs x48_1))] [] (.st [.i .i64 x48_2_0, .s x48_2_1, .s x48_2_2, .i .i64 x48_2_3, .st [.i .i64 x48_2_4_0, .s x48_2_4_1, .sl 3 (eTypes x48_2_4_2)], .sl 9 (eExprs x48_2_5), .sl 11 (eArms x48_2_6)]) (.st [.i .i64 x47_0_0, .s x47_0_1, .s x47_0_2, .i .i64 x47_0_3, .st [.i .i64 x47_0_4_0, .s x47_0_4_1, .sl 3 (eTypes x47_0_4_2)], .sl 9 (eExprs x47_0_5), .sl 11 (eArms x47_0_6)]) (TMethod.mk x48_0 x48_1 (TExpr.mk x48_2_0 x48_2_1 x48_2_2 x48_2_3 (TType.mk x48_2_4_0 x48_2_4_1 x48_2_4_2) x48_2_5 x48_2_6)) (TMethod.mk x48_0 x48_1 (TExpr.mk x47_0_0 x47_0_1 x47_0_2 x47_0_3 (TType.mk x47_0_4_0 x47_0_4_1 x47_0_4_2) x47_0_5 x47_0_6)) hx48 VY_e) ?_
                  refine VT_nil ?_
                  exact R_pk 1 [0, 1, 2, 3, 4, 5, 6, 7, 8, 9]
                refine VT_h1 (VY_lb (T := 24) (us := eStrs [[120], [121]]) VY_e) ?_
                refine VT_h (VY_dh VY_e) ?_ ?_
                · as_aux_lemma =>
                  refine VT_h (VY_dh VY_e) ?_ ?_
                  · refine VT_h1 (VY_frz 9 rfl rfl (VY_cG (sv := .d (.st [.i .i64 x47_0_0, .s x47_0_1, .s x47_0_2, .i .i64 x47_0_3, .st [.i .i64 x47_0_4_0, .s x47_0_4_1, .sl 3 (eTypes x47_0_4_2)], .sl 9 (eExprs x47_0_5), .sl 11 (eArms x47_0_6)])) (L' := [.box [.d (.sl 1 (eBytes x47_1_0)), .d (.i .i64 x47_1_1), .d (.i .i64 x47_1_2)], .box [.d (.s []), .nilsl, .d (.i .i64 0), .d (.s []), .nilsl, .nilsl, .d (.b false), .d (.b false), .d (.i .i64 0), .d (.s []), .nilsl, .nilsl], .frz 9 1 0 (eStrs [[115, 104, 111, 119], [101, 113], [97, 100, 100]]), .frz 9 1 0 (eStrs [[120]]), .arr 65 11 0 (eMethods [(TMethod.mk [109] [[120]] (TExpr.mk x3_0 x3_1 x3_2 x3_3 (TType.mk x3_4_0 x3_4_1 x3_4_2) x3_5 x3_6))]), .box [.d (.s x1_0), .sl 6 0, .d (.i .i64 x30_0), .d (.s x30_1), .d (.sl 3 (eTypes x30_2)), .sl 8 0, .d (.b x36_0), .d (.b b33_3), .d (.i .i64 b33_4), .d (.s b33_5), .d (.sl 3 (eTypes b33_6)), .sl 4 0], .arr 9 1 0 (eStrs [[97]]), .frz 27 3 0 (eTypes [(TType.mk x29_0 x29_1 x29_2)]), .arr 69 4 0 (eBounds [(TBound.mk x1_0 (TType.mk x31_0 x31_1 x31_2))]), .frz 9 1 0 (eStrs [[120], [121]])]) [0] (s_l11Expr 8 (Tl1Cur.mk x37_1_0 x37_1_1 x37_1_2) [[120], [121]] 2 hx47) VY_e)) ?_
                    refine VT_h1 (VY_ixa 0 (List.getElem?_eq_some_iff.1 hx48).1 VY_e) ?_
                    refine VT_h1 (VY_fla VY_e) ?_
                    refine VT_h1 (VY_stm [(.s x48_0), (.sl 1 (eStrs x48_1))] [] (.st [.i .i64 x48_2_0, .s x48_2_1, .s x48_2_2, .i .i64 x48_2_3, .st [.i .i64 x48_2_4_0, .s x48_2_4_1, .sl 3 (eTypes x48_2_4_2)], .sl 9 (eExprs x48_2_5), .sl 11 (eArms x48_2_6)]) (.st [.i .i64 x47_0_0, .s x47_0_1, .s x47_0_2, .i .i64 x47_0_3, .st [.i .i64 x47_0_4_0, .s x47_0_4_1, .sl 3 (eTypes x47_0_4_2)], .sl 9 (eExprs x47_0_5), .sl 11 (eArms x47_0_6)]) (TMethod.mk x48_0 x48_1 (TExpr.mk x48_2_0 x48_2_1 x48_2_2 x48_2_3 (TType.mk x48_2_4_0 x48_2_4_1 x48_2_4_2) x48_2_5 x48_2_6)) (TMethod.mk x48_0 x48_1 (TExpr.mk x47_0_0 x47_0_1 x47_0_2 x47_0_3 (TType.mk x47_0_4_0 x47_0_4_1 x47_0_4_2) x47_0_5 x47_0_6)) hx48 VY_e) ?_
                    refine VT_nil ?_
                    exact R_pk 1 [0, 1, 2, 3, 4, 5, 6, 7, 8, 9]
                  refine VT_h1 (VY_frz 9 rfl rfl (VY_cG (sv := .d (.st [.i .i64 x47_0_0, .s x47_0_1, .s x47_0_2, .i .i64 x47_0_3, .st [.i .i64 x47_0_4_0, .s x47_0_4_1, .sl 3 (eTypes x47_0_4_2)], .sl 9 (eExprs x47_0_5), .sl 11 (eArms x47_0_6)])) (L' := [.box [.d (.sl 1 (eBytes x47_1_0)), .d (.i .i64 x47_1_1), .d (.i .i64 x47_1_2)], .box [.d (.s []), .nilsl, .d (.i .i64 0), .d (.s []), .nilsl, .nilsl, .d (.b false), .d (.b false), .d (.i .i64 0), .d (.s []), .nilsl, .nilsl], .frz 9 1 0 (eStrs [[115, 104, 111, 119], [101, 113], [97, 100, 100]]), .frz 9 1 0 (eStrs [[120]]), .arr 65 11 0 (eMethods [(TMethod.mk [109] [[120]] (TExpr.mk x3_0 x3_1 x3_2 x3_3 (TType.mk x3_4_0 x3_4_1 x3_4_2) x3_5 x3_6))]), .box [.d (.s x1_0), .sl 6 0, .d (.i .i64 x30_0), .d (.s x30_1), .d (.sl 3 (eTypes x30_2)), .sl 8 0, .d (.b x36_0), .d (.b b33_3), .d (.i .i64 b33_4), .d (.s b33_5), .d (.sl 3 (eTypes b33_6)), .sl 4 0], .arr 9 1 0 (eStrs [[97]]), .frz 27 3 0 (eTypes [(TType.mk x29_0 x29_1 x29_2)]), .arr 69 4 0 (eBounds [(TBound.mk x1_0 (TType.mk x31_0 x31_1 x31_2))]), .frz 9 1 0 (eStrs [[120], [121]])]) [0] (s_l11Expr 8 (Tl1Cur.mk x37_1_0 x37_1_1 x37_1_2) [[120], [121]] 2 hx47) VY_e)) ?_
                  refine VT_h1 (VY_dh VY_e) ?_
                  refine VT_h1 (VY_ixa 0 (List.getElem?_eq_some_iff.1 hx48).1 VY_e) ?_
                  refine VT_h1 (VY_fla VY_e) ?_
                  refine VT_h1 (VY_stm [(.s x48_0), (.sl 1 (eStrs x48_1))] [] (.st [.i .i64 x48_2_0, .s x48_2_1, .s x48_2_2, .i .i64 x48_2_3, .st [.i .i64 x48_2_4_0, .s x48_2_4_1, .sl 3 (eTypes x48_2_4_2)], .sl 9 (eExprs x48_2_5), .sl 11 (eArms x48_2_6)]) (.st [.i .i64 x47_0_0, .s x47_0_1, .s x47_0_2, .i .i64 x47_0_3, .st [.i .i64 x47_0_4_0, .s x47_0_4_1, .sl 3 (eTypes x47_0_4_2)], .sl 9 (eExprs x47_0_5), .sl 11 (eArms x47_0_6)]) (TMethod.mk x48_0 x48_1 (TExpr.mk x48_2_0 x48_2_1 x48_2_2 x48_2_3 (TType.mk x48_2_4_0 x48_2_4_1 x48_2_4_2) x48_2_5 x48_2_6)) (TMethod.mk x48_0 x48_1 (TExpr.mk x47_0_0 x47_0_1 x47_0_2 x47_0_3 (TType.mk x47_0_4_0 x47_0_4_1 x47_0_4_2) x47_0_5 x47_0_6)) hx48 VY_e) ?_
                  refine VT_nil ?_
                  exact R_pk 1 [0, 1, 2, 3, 4, 5, 6, 7, 8, 9]
                refine VT_h1 (VY_frz 9 rfl rfl (VY_cG (sv := .d (.st [.i .i64 x47_0_0, .s x47_0_1, .s x47_0_2, .i .i64 x47_0_3, .st [.i .i64 x47_0_4_0, .s x47_0_4_1, .sl 3 (eTypes x47_0_4_2)], .sl 9 (eExprs x47_0_5), .sl 11 (eArms x47_0_6)])) (L' := [.box [.d (.sl 1 (eBytes x47_1_0)), .d (.i .i64 x47_1_1), .d (.i .i64 x47_1_2)], .box [.d (.s []), .nilsl, .d (.i .i64 0), .d (.s []), .nilsl, .nilsl, .d (.b false), .d (.b false), .d (.i .i64 0), .d (.s []), .nilsl, .nilsl], .frz 9 1 0 (eStrs [[115, 104, 111, 119], [101, 113], [97, 100, 100]]), .frz 9 1 0 (eStrs [[120]]), .arr 65 11 0 (eMethods [(TMethod.mk [109] [[120]] (TExpr.mk x3_0 x3_1 x3_2 x3_3 (TType.mk x3_4_0 x3_4_1 x3_4_2) x3_5 x3_6))]), .box [.d (.s x1_0), .sl 6 0, .d (.i .i64 x30_0), .d (.s x30_1), .d (.sl 3 (eTypes x30_2)), .sl 8 0, .d (.b x36_0), .d (.b b33_3), .d (.i .i64 b33_4), .d (.s b33_5), .d (.sl 3 (eTypes b33_6)), .sl 4 0], .arr 9 1 0 (eStrs [[97]]), .frz 27 3 0 (eTypes [(TType.mk x29_0 x29_1 x29_2)]), .arr 69 4 0 (eBounds [(TBound.mk x1_0 (TType.mk x31_0 x31_1 x31_2))]), .frz 9 1 0 (eStrs [[120], [121]])]) [0] (s_l11Expr 8 (Tl1Cur.mk x37_1_0 x37_1_1 x37_1_2) [[120], [121]] 2 hx47) VY_e)) ?_
                refine VT_h1 (VY_dh VY_e) ?_
                refine VT_h1 (VY_dh VY_e) ?_
                refine VT_h1 (VY_ixa 0 (List.getElem?_eq_some_iff.1 hx48).1 VY_e) ?_
                refine VT_h1 (VY_fla VY_e) ?_
                refine VT_h1 (VY_stm [(.s x48_0), (.sl 1 (eStrs x48_1))] [] (.st [.i .i64 x48_2_0, .s x48_2_1, .s x48_2_2, .i .i64 x48_2_3, .st [.i .i64 x48_2_4_0, .s x48_2_4_1, .sl 3 (eTypes x48_2_4_2)], .sl 9 (eExprs x48_2_5), .sl 11 (eArms x48_2_6)]) (.st [.i .i64 x47_0_0, .s x47_0_1, .s x47_0_2, .i .i64 x47_0_3, .st [.i .i64 x47_0_4_0, .s x47_0_4_1, .sl 3 (eTypes x47_0_4_2)], .sl 9 (eExprs x47_0_5), .sl 11 (eArms x47_0_6)]) (TMethod.mk x48_0 x48_1 (TExpr.mk x48_2_0 x48_2_1 x48_2_2 x48_2_3 (TType.mk x48_2_4_0 x48_2_4_1 x48_2_4_2) x48_2_5 x48_2_6)) (TMethod.mk x48_0 x48_1 (TExpr.mk x47_0_0 x47_0_1 x47_0_2 x47_0_3 (TType.mk x47_0_4_0 x47_0_4_1 x47_0_4_2) x47_0_5 x47_0_6)) hx48 VY_e) ?_
                refine VT_nil ?_
                exact R_pk 1 [0, 1, 2, 3, 4, 5, 6, 7, 8, 9]
              refine goL ?_
              refine V_freeze 6 rfl rfl ?_
              refine V_freeze 8 rfl rfl ?_
              refine V_freeze 4 rfl rfl ?_
              refine V_ret ?_
              replace h := Option.some.inj h
              subst h
              exact R_rF [.d (.st [.s x1_0, .sl 1 (eStrs [[97]]), .st [.i .i64 x30_0, .s x30_1, .sl 3 (eTypes x30_2)], .sl 4 (eBounds [(TBound.mk x1_0 (TType.mk x31_0 x31_1 x31_2))]), .b x36_0, .b b33_3, .st [.i .i64 b33_4, .s b33_5, .sl 3 (eTypes b33_6)], .sl 11 (eMethods ([(TMethod.mk [109] [[120]] (TExpr.mk x3_0 x3_1 x3_2 x3_3 (TType.mk x3_4_0 x3_4_1 x3_4_2) x3_5 x3_6))].set 0 (TMethod.mk x48_0 x48_1 (TExpr.mk x47_0_0 x47_0_1 x47_0_2 x47_0_3 (TType.mk x47_0_4_0 x47_0_4_1 x47_0_4_2) x47_0_5 x47_0_6))))])] [.box [.d (.sl 1 (eBytes x47_1_0)), .d (.i .i64 x47_1_1), .d (.i .i64 x47_1_2)]] ⟨rfl, rfl⟩
            · as_aux_lemma =>
              replace h := cnd_f c46 h
              refine goL ?_
              refine V_cb (fun c49 => ?_) (fun c49 => ?_)
              · as_aux_lemma =>
                replace h := cnd_t c49 h
                refine goL ?_
                obtain ⟨x50, hx50, h⟩ := bnd_s h
                obtain ⟨x50_0, x50_1, x50_2⟩ := x50
                refine VO_r (QR_call (w_l4Int  hx50)) ?_
                refine goL ?_
                refine V_freeze 6 rfl rfl ?_
                refine V_freeze 8 rfl rfl ?_
                refine V_freeze 4 rfl rfl ?_
                refine V_ret ?_
                replace h := Option.some.inj h
                subst h
                exact R_rF [.d (.st [.s x1_0, .sl 1 (eStrs [[97]]), .st [.i .i64 x30_0, .s x30_1, .sl 3 (eTypes x30_2)], .sl 4 (eBounds [(TBound.mk x1_0 (TType.mk x31_0 x31_1 x31_2))]), .b x36_0, .b b33_3, .st [.i .i64 x50_0, .s x50_1, .sl 3 (eTypes x50_2)], .sl 11 (eMethods [(TMethod.mk [109] [[120]] (TExpr.mk x3_0 x3_1 x3_2 x3_3 (TType.mk x3_4_0 x3_4_1 x3_4_2) x3_5 x3_6))])])] [.box [.d (.sl 1 (eBytes x37_1_0)), .d (.i .i64 x37_1_1), .d (.i .i64 x37_1_2)]] ⟨rfl, rfl⟩
              · as_aux_lemma =>
                replace h := cnd_f c49 h
                refine goL ?_
                refine V_cb (fun c51 => ?_) (fun c51 => ?_)
                · as_aux_lemma =>
                  replace h := cnd_t c51 h
                  refine goL ?_
                  refine VO_l0 ?_
                  obtain ⟨x52, hx52, h⟩ := bnd_s h
                  obtain ⟨hx520, hx52⟩ := at_s hx52
                  obtain ⟨x52_0, x52_1, ⟨x52_2_0, x52_2_1, x52_2_2, x52_2_3, ⟨x52_2_4_0, x52_2_4_1, x52_2_4_2⟩, x52_2_5, x52_2_6⟩⟩ := x52
                  refine VO_k (Q_ixa 0 (List.getElem?_eq_some_iff.1 hx52).1) ?_
                  refine VO_k (Q_fla) ?_
                  refine VO_freezeO 9 rfl rfl ?_
                  refine VO_stm [(.s x52_0)] [(.st [.i .i64 x52_2_0, .s x52_2_1, .s x52_2_2, .i .i64 x52_2_3, .st [.i .i64 x52_2_4_0, .s x52_2_4_1, .sl 3 (eTypes x52_2_4_2)], .sl 9 (eExprs x52_2_5), .sl 11 (eArms x52_2_6)])] (.sl 1 (eStrs x52_1)) (.sl 1 []) (TMethod.mk x52_0 x52_1 (TExpr.mk x52_2_0 x52_2_1 x52_2_2 x52_2_3 (TType.mk x52_2_4_0 x52_2_4_1 x52_2_4_2) x52_2_5 x52_2_6)) (TMethod.mk x52_0 [] (TExpr.mk x52_2_0 x52_2_1 x52_2_2 x52_2_3 (TType.mk x52_2_4_0 x52_2_4_1 x52_2_4_2) x52_2_5 x52_2_6)) hx52 ?_
                  refine goL ?_
                  refine V_freeze 6 rfl rfl ?_
                  refine V_freeze 8 rfl rfl ?_
                  refine V_freeze 4 rfl rfl ?_
                  refine V_ret ?_
                  replace h := Option.some.inj h
                  subst h
                  exact R_rF [.d (.st [.s x1_0, .sl 1 (eStrs [[97]]), .st [.i .i64 x30_0, .s x30_1, .sl 3 (eTypes x30_2)], .sl 4 (eBounds [(TBound.mk x1_0 (TType.mk x31_0 x31_1 x31_2))]), .b x36_0, .b b33_3, .st [.i .i64 b33_4, .s b33_5, .sl 3 (eTypes b33_6)], .sl 11 (eMethods ([(TMethod.mk [109] [[120]] (TExpr.mk x3_0 x3_1 x3_2 x3_3 (TType.mk x3_4_0 x3_4_1 x3_4_2) x3_5 x3_6))].set 0 (TMethod.mk x52_0 [] (TExpr.mk x52_2_0 x52_2_1 x52_2_2 x52_2_3 (TType.mk x52_2_4_0 x52_2_4_1 x52_2_4_2) x52_2_5 x52_2_6))))])] [.box [.d (.sl 1 (eBytes x37_1_0)), .d (.i .i64 x37_1_1), .d (.i .i64 x37_1_2)]] ⟨rfl, rfl⟩
                · replace h := cnd_f c51 h
                  refine V_skip ?_
                  show V _ _ _ _ _
                  refine goL ?_
                  refine V_freeze 6 rfl rfl ?_
                  refine V_freeze 8 rfl rfl ?_
                  refine V_freeze 4 rfl rfl ?_
                  refine V_ret ?_
                  replace h := Option.some.inj h
                  subst h
                  exact R_rF [.d (.st [.s x1_0, .sl 1 (eStrs [[97]]), .st [.i .i64 x30_0, .s x30_1, .sl 3 (eTypes x30_2)], .sl 4 (eBounds [(TBound.mk x1_0 (TType.mk x31_0 x31_1 x31_2))]), .b x36_0, .b b33_3, .st [.i .i64 b33_4, .s b33_5, .sl 3 (eTypes b33_6)], .sl 11 (eMethods [(TMethod.mk [109] [[120]] (TExpr.mk x3_0 x3_1 x3_2 x3_3 (TType.mk x3_4_0 x3_4_1 x3_4_2) x3_5 x3_6))])])] [.box [.d (.sl 1 (eBytes x37_1_0)), .d (.i .i64 x37_1_1), .d (.i .i64 x37_1_2)]] ⟨rfl, rfl⟩
    · as_aux_lemma =>
      replace h := cnd_f c28 h
      refine goL ?_
      refine V_cb (fun c53 => ?_) (fun c53 => ?_)
      · as_aux_lemma =>
        replace h := cnd_t c53 h
        refine goL ?_
        refine VO_lb (us := eStrs [[97], [98]]) ?_
        refine goL ?_
        obtain ⟨x54, hx54, h⟩ := lt_x h
        obtain ⟨x54_0, x54_1, x54_2⟩ := x54
        have sx54 := w_sVar [97]
        rw [hx54] at sx54
        refine VO_r (QR_call (sx54)) ?_
        obtain ⟨x55, hx55, h⟩ := lt_x h
        obtain ⟨x55_0, x55_1, x55_2⟩ := x55
        have sx55 := w_sVar [98]
        rw [hx55] at sx55
        refine VO_r (QR_call (sx55)) ?_
        refine VO_lb (us := eTypes [(TType.mk x54_0 x54_1 x54_2), (TType.mk x55_0 x55_1 x55_2)]) ?_
        refine VO_freeze 7 rfl rfl ?_
        obtain ⟨x56, hx56, h⟩ := bnd_s h
        obtain ⟨x56_0, x56_1, x56_2⟩ := x56
        refine VO_k (Q_cl (w_l4Con [112, 97, 105, 114] [(TType.mk x54_0 x54_1 x54_2), (TType.mk x55_0 x55_1 x55_2)] hx56)) ?_
        refine goL ?_
        obtain ⟨x57, hx57, h⟩ := bnd_s h
        obtain ⟨x57_0, ⟨x57_1_0, x57_1_1, x57_1_2⟩⟩ := x57
        refine VO_cG [0] (w_l1Once (Tl1Cur.mk x4_1_0 x4_1_1 x4_1_2) 3 hx57) ?_
        rintro _ _ ⟨rfl, rfl⟩
        show VO _ _ _ _ ⟨(_, .d (.b x57_0)) :: _, [.box [.d (.sl 1 (eBytes x57_1_0)), .d (.i .i64 x57_1_1), .d (.i .i64 x57_1_2)], .box [.d (.s []), .nilsl, .d (.i .i64 0), .d (.s []), .nilsl, .nilsl, .d (.b false), .d (.b false), .d (.i .i64 0), .d (.s []), .nilsl, .nilsl], .frz 9 1 0 (eStrs [[115, 104, 111, 119], [101, 113], [97, 100, 100]]), .frz 9 1 0 (eStrs [[120]]), .arr 65 11 0 (eMethods [(TMethod.mk [109] [[120]] (TExpr.mk x3_0 x3_1 x3_2 x3_3 (TType.mk x3_4_0 x3_4_1 x3_4_2) x3_5 x3_6))]), .box [.d (.s x1_0), .sl 6 0, .d (.i .i64 x56_0), .d (.s x56_1), .d (.sl 3 (eTypes x56_2)), .nilsl, .d (.b false), .d (.b false), .d (.i .i64 0), .d (.s []), .nilsl, .sl 4 0], .arr 9 1 0 (eStrs [[97], [98]]), .frz 27 3 0 (eTypes [(TType.mk x54_0 x54_1 x54_2), (TType.mk x55_0 x55_1 x55_2)])], _⟩ _
        refine goL ?_
        refine V_nild 3 5 10 rfl rfl (by repeat constructor) (by repeat constructor) ?_
        obtain ⟨b58, hb58, h⟩ := bnd_s h
        obtain ⟨b58_0, b58_1, b58_2, b58_3, b58_4, b58_5, b58_6⟩ := b58
        refine V_thenJ ⟨[(0, .ptr 0 0), (2, .ptr 1 0), (3, .ptr 5 0)], [.box [.d (.sl 1 (eBytes b58_0)), .d (.i .i64 b58_1), .d (.i .i64 b58_2)], .box [.d (.s []), .nilsl, .d (.i .i64 0), .d (.s []), .nilsl, .nilsl, .d (.b false), .d (.b false), .d (.i .i64 0), .d (.s []), .nilsl, .nilsl], .frz 9 1 0 (eStrs [[115, 104, 111, 119], [101, 113], [97, 100, 100]]), .frz 9 1 0 (eStrs [[120]]), .arr 65 11 0 (eMethods [(TMethod.mk [109] [[120]] (TExpr.mk x3_0 x3_1 x3_2 x3_3 (TType.mk x3_4_0 x3_4_1 x3_4_2) x3_5 x3_6))]), .box [.d (.s x1_0), .sl 6 0, .d (.i .i64 x56_0), .d (.s x56_1), .d (.sl 3 (eTypes x56_2)), .nilsl, .d (.b false), .d (.b b58_3), .d (.i .i64 b58_4), .d (.s b58_5), .d (.sl 3 (eTypes b58_6)), .sl 4 0], .arr 9 1 0 (eStrs [[97], [98]]), .frz 27 3 0 (eTypes [(TType.mk x54_0 x54_1 x54_2), (TType.mk x55_0 x55_1 x55_2)])], Try.f17.ntmps⟩ ?_ ?_
        · as_aux_lemma =>
          refine V_cb (fun c59 => ?_) (fun c59 => ?_)
          · replace hb58 := cnd_t c59 hb58
            refine goL ?_
            obtain ⟨x60, hx60, hb58⟩ := bnd_s hb58
            obtain ⟨⟨x60_0_0, x60_0_1, x60_0_2⟩, ⟨x60_1_0, x60_1_1, x60_1_2⟩⟩ := x60
            refine VO_cG [0, 6] (s_l4TyL 8 (Tl1Cur.mk x57_1_0 x57_1_1 x57_1_2) [[97], [98]] 1 0 hx60) ?_
            rintro _ _ ⟨rfl, rfl⟩
            show VO _ _ _ _ ⟨(_, .d (.st [.i .i64 x60_0_0, .s x60_0_1, .sl 3 (eTypes x60_0_2)])) :: _, [.box [.d (.sl 1 (eBytes x60_1_0)), .d (.i .i64 x60_1_1), .d (.i .i64 x60_1_2)], .box [.d (.s []), .nilsl, .d (.i .i64 0), .d (.s []), .nilsl, .nilsl, .d (.b false), .d (.b false), .d (.i .i64 0), .d (.s []), .nilsl, .nilsl], .frz 9 1 0 (eStrs [[115, 104, 111, 119], [101, 113], [97, 100, 100]]), .frz 9 1 0 (eStrs [[120]]), .arr 65 11 0 (eMethods [(TMethod.mk [109] [[120]] (TExpr.mk x3_0 x3_1 x3_2 x3_3 (TType.mk x3_4_0 x3_4_1 x3_4_2) x3_5 x3_6))]), .box [.d (.s x1_0), .sl 6 0, .d (.i .i64 x56_0), .d (.s x56_1), .d (.sl 3 (eTypes x56_2)), .nilsl, .d (.b false), .d (.b true), .d (.i .i64 0), .d (.s []), .d (.sl 3 []), .sl 4 0], .arr 9 1 0 (eStrs [[97], [98]]), .frz 27 3 0 (eTypes [(TType.mk x54_0 x54_1 x54_2), (TType.mk x55_0 x55_1 x55_2)])], _⟩ _
            refine goL ?_
            cases hb58
            exact ⟨rfl, ⟨⟨rfl, rfl⟩, ⟨rfl, rfl⟩, ⟨rfl, rfl⟩, trivial⟩, ⟨_, rfl⟩, rfl⟩
          · replace hb58 := cnd_f c59 hb58
            refine V_skip ?_
            cases hb58
            exact ⟨rfl, ⟨⟨rfl, rfl⟩, ⟨rfl, rfl⟩, ⟨rfl, rfl⟩, trivial⟩, ⟨_, rfl⟩, rfl⟩
        refine goL ?_
        obtain ⟨x61, hx61, h⟩ := bnd_s h
        obtain ⟨x61_0, ⟨x61_1_0, x61_1_1, x61_1_2⟩⟩ := x61
        refine VO_cG [0] (w_l1Once (Tl1Cur.mk b58_0 b58_1 b58_2) 4 hx61) ?_
        rintro _ _ ⟨rfl, rfl⟩
        show VO _ _ _ _ ⟨(_, .d (.b x61_0)) :: _, [.box [.d (.sl 1 (eBytes x61_1_0)), .d (.i .i64 x61_1_1), .d (.i .i64 x61_1_2)], .box [.d (.s []), .nilsl, .d (.i .i64 0), .d (.s []), .nilsl, .nilsl, .d (.b false), .d (.b false), .d (.i .i64 0), .d (.s []), .nilsl, .nilsl], .frz 9 1 0 (eStrs [[115, 104, 111, 119], [101, 113], [97, 100, 100]]), .frz 9 1 0 (eStrs [[120]]), .arr 65 11 0 (eMethods [(TMethod.mk [109] [[120]] (TExpr.mk x3_0 x3_1 x3_2 x3_3 (TType.mk x3_4_0 x3_4_1 x3_4_2) x3_5 x3_6))]), .box [.d (.s x1_0), .sl 6 0, .d (.i .i64 x56_0), .d (.s x56_1), .d (.sl 3 (eTypes x56_2)), .nilsl, .d (.b false), .d (.b b58_3), .d (.i .i64 b58_4), .d (.s b58_5), .d (.sl 3 (eTypes b58_6)), .sl 4 0], .arr 9 1 0 (eStrs [[97], [98]]), .frz 27 3 0 (eTypes [(TType.mk x54_0 x54_1 x54_2), (TType.mk x55_0 x55_1 x55_2)])], _⟩ _
        refine goL ?_
        obtain ⟨x62, hx62, h⟩ := bnd_s h
        obtain ⟨x62_0, ⟨x62_1_0, x62_1_1, x62_1_2⟩⟩ := x62
        refine VO_cG [0] (w_l1Below (Tl1Cur.mk x61_1_0 x61_1_1 x61_1_2) 12 hx62) ?_
        rintro _ _ ⟨rfl, rfl⟩
        show VO _ _ _ _ ⟨(_, .d (.i .i64 x62_0)) :: _, [.box [.d (.sl 1 (eBytes x62_1_0)), .d (.i .i64 x62_1_1), .d (.i .i64 x62_1_2)], .box [.d (.s []), .nilsl, .d (.i .i64 0), .d (.s []), .nilsl, .nilsl, .d (.b false), .d (.b false), .d (.i .i64 0), .d (.s []), .nilsl, .nilsl], .frz 9 1 0 (eStrs [[115, 104, 111, 119], [101, 113], [97, 100, 100]]), .frz 9 1 0 (eStrs [[120]]), .arr 65 11 0 (eMethods [(TMethod.mk [109] [[120]] (TExpr.mk x3_0 x3_1 x3_2 x3_3 (TType.mk x3_4_0 x3_4_1 x3_4_2) x3_5 x3_6))]), .box [.d (.s x1_0), .sl 6 0, .d (.i .i64 x56_0), .d (.s x56_1), .d (.sl 3 (eTypes x56_2)), .nilsl, .d (.b x61_0), .d (.b b58_3), .d (.i .i64 b58_4), .d (.s b58_5), .d (.sl 3 (eTypes b58_6)), .sl 4 0], .arr 9 1 0 (eStrs [[97], [98]]), .frz 27 3 0 (eTypes [(TType.mk x54_0 x54_1 x54_2), (TType.mk x55_0 x55_1 x55_2)])], _⟩ _
        refine goL ?_
        refine V_block ?_
        refine goL ?_
        refine V_cb (fun c63 => ?_) (fun c63 => ?_)
        · as_aux_lemma =>
          replace h := cnd_t c63 h
          refine goL ?_
          obtain ⟨x64, hx64, h⟩ := bnd_s h
          obtain ⟨⟨x64_0_0, x64_0_1, x64_0_2⟩, ⟨x64_1_0, x64_1_1, x64_1_2⟩⟩ := x64
          refine VO_cG [0] (w_l4Free (Tl1Cur.mk x62_1_0 x62_1_1 x62_1_2) 2 hx64) ?_
          rintro _ _ ⟨rfl, rfl⟩
          show VO _ _ _ _ ⟨(_, .d (.st [.i .i64 x64_0_0, .s x64_0_1, .sl 3 (eTypes x64_0_2)])) :: _, [.box [.d (.sl 1 (eBytes x64_1_0)), .d (.i .i64 x64_1_1), .d (.i .i64 x64_1_2)], .box [.d (.s []), .nilsl, .d (.i .i64 0), .d (.s []), .nilsl, .nilsl, .d (.b false), .d (.b false), .d (.i .i64 0), .d (.s []), .nilsl, .nilsl], .frz 9 1 0 (eStrs [[115, 104, 111, 119], [101, 113], [97, 100, 100]]), .frz 9 1 0 (eStrs [[120]]), .arr 65 11 0 (eMethods [(TMethod.mk [109] [[120]] (TExpr.mk x3_0 x3_1 x3_2 x3_3 (TType.mk x3_4_0 x3_4_1 x3_4_2) x3_5 x3_6))]), .box [.d (.s x1_0), .sl 6 0, .d (.i .i64 x56_0), .d (.s x56_1), .d (.sl 3 (eTypes x56_2)), .nilsl, .d (.b x61_0), .d (.b b58_3), .d (.i .i64 b58_4), .d (.s b58_5), .d (.sl 3 (eTypes b58_6)), .sl 4 0], .arr 9 1 0 (eStrs [[97], [98]]), .frz 27 3 0 (eTypes [(TType.mk x54_0 x54_1 x54_2), (TType.mk x55_0 x55_1 x55_2)])], _⟩ _
          refine goL ?_
          refine V_freeze 6 rfl rfl ?_
          refine V_freeze 4 rfl rfl ?_
          refine V_ret ?_
          replace h := Option.some.inj h
          subst h
          exact R_rF [.d (.st [.s x1_0, .sl 1 (eStrs [[97], [98]]), .st [.i .i64 x64_0_0, .s x64_0_1, .sl 3 (eTypes x64_0_2)], .sl 4 [], .b x61_0, .b b58_3, .st [.i .i64 b58_4, .s b58_5, .sl 3 (eTypes b58_6)], .sl 11 (eMethods [(TMethod.mk [109] [[120]] (TExpr.mk x3_0 x3_1 x3_2 x3_3 (TType.mk x3_4_0 x3_4_1 x3_4_2) x3_5 x3_6))])])] [.box [.d (.sl 1 (eBytes x64_1_0)), .d (.i .i64 x64_1_1), .d (.i .i64 x64_1_2)]] ⟨rfl, rfl⟩
        · as_aux_lemma =>
          replace h := cnd_f c63 h
          refine goL ?_
          refine V_cb (fun c65 => ?_) (fun c65 => ?_)
          · as_aux_lemma =>
            replace h := cnd_t c65 h
            obtain ⟨x66, hx66, h⟩ := bnd_s h
            obtain ⟨x66_0, ⟨x66_1_0, x66_1_1, x66_1_2⟩⟩ := x66
            obtain ⟨g67, h⟩ := gd_s h
            refine V_drawTJ (P := Try.prog) Mix.h (.q 2 (.h 0 (.h 1 (.h 3 (.h 4 (.h 5 (.h 6 (.q 7 (.h 8 .nil .nil)) .nil) .nil) .nil) .nil) (.h 3 (.h 1 (.h 4 (.h 5 (.h 6 (.q 7 (.h 8 .nil .nil)) .nil) .nil) .nil) (.h 4 (.h 1 (.h 5 (.h 6 (.q 7 (.h 8 .nil .nil)) .nil) .nil) (.h 5 (.h 1 (.h 6 (.q 7 (.h 8 .nil .nil)) .nil) .nil) .nil)) .nil)) .nil)) (.h 3 (.h 0 (.h 1 (.h 4 (.h 5 (.h 6 (.q 7 (.h 8 .nil .nil)) .nil) .nil) .nil) (.h 4 (.h 1 (.h 5 (.h 6 (.q 7 (.h 8 .nil .nil)) .nil) .nil) (.h 5 (.h 1 (.h 6 (.q 7 (.h 8 .nil .nil)) .nil) .nil) .nil)) .nil)) (.h 4 (.h 0 (.h 1 (.h 5 (.h 6 (.q 7 (.h 8 .nil .nil)) .nil) .nil) (.h 5 (.h 1 (.h 6 (.q 7 (.h 8 .nil .nil)) .nil) .nil) .nil)) (.h 5 (.h 0 (.h 1 (.h 6 (.q 7 (.h 8 .nil .nil)) .nil) .nil) .nil) .nil)) .nil)) .nil))) ⟨[(2, .ptr 1 0), (3, .ptr 5 0)], [.box [.d (.sl 1 (eBytes x66_1_0)), .d (.i .i64 x66_1_1), .d (.i .i64 x66_1_2)], .box [.d (.s []), .nilsl, .d (.i .i64 0), .d (.s []), .nilsl, .nilsl, .d (.b false), .d (.b false), .d (.i .i64 0), .d (.s []), .nilsl, .nilsl], .frz 9 1 0 (eStrs [[115, 104, 111, 119], [101, 113], [97, 100, 100]]), .frz 9 1 0 (eStrs [[120]]), .arr 65 11 0 (eMethods [(TMethod.mk [109] [[120]] (TExpr.mk x3_0 x3_1 x3_2 x3_3 (TType.mk x3_4_0 x3_4_1 x3_4_2) x3_5 x3_6))]), .box [.d (.s x1_0), .sl 6 (0 + 1), .d (.i .i64 x56_0), .d (.s x56_1), .d (.sl 3 (eTypes x56_2)), .nilsl, .d (.b x61_0), .d (.b b58_3), .d (.i .i64 b58_4), .d (.s b58_5), .d (.sl 3 (eTypes b58_6)), .sl 4 0], .arr 9 1 (0 + 1) (eStrs ([[97], [98]] ++ [x66_0])), .frz 27 3 0 (eTypes [(TType.mk x54_0 x54_1 x54_2), (TType.mk x55_0 x55_1 x55_2)]), .frz 9 1 0 (eStrs [[97], [99]]), .arr 9 1 0 (eStrs [x66_0])], Try.f17.ntmps⟩ (by kernel_rfl) ?_ ?_
            · as_aux_lemma =>
              refine goT ?_
              refine VT_h (VY_dh VY_e) ?_ ?_
              · as_aux_lemma =>
                refine VT_h (VY_dh VY_e) ?_ ?_
                · refine VT_h1 (VY_lb (T := 24) (us := eStrs [[97], [99]]) VY_e) ?_
                  refine VT_h1 (VY_frz 8 rfl rfl (VY_cG (sv := .d (.s x66_0)) (L' := [.box [.d (.sl 1 (eBytes x66_1_0)), .d (.i .i64 x66_1_1), .d (.i .i64 x66_1_2)], .box [.d (.s []), .nilsl, .d (.i .i64 0), .d (.s []), .nilsl, .nilsl, .d (.b false), .d (.b false), .d (.i .i64 0), .d (.s []), .nilsl, .nilsl], .frz 9 1 0 (eStrs [[115, 104, 111, 119], [101, 113], [97, 100, 100]]), .frz 9 1 0 (eStrs [[120]]), .arr 65 11 0 (eMethods [(TMethod.mk [109] [[120]] (TExpr.mk x3_0 x3_1 x3_2 x3_3 (TType.mk x3_4_0 x3_4_1 x3_4_2) x3_5 x3_6))]), .box [.d (.s x1_0), .sl 6 0, .d (.i .i64 x56_0), .d (.s x56_1), .d (.sl 3 (eTypes x56_2)), .nilsl, .d (.b x61_0), .d (.b b58_3), .d (.i .i64 b58_4), .d (.s b58_5), .d (.sl 3 (eTypes b58_6)), .sl 4 0], .arr 9 1 0 (eStrs [[97], [98]]), .frz 27 3 0 (eTypes [(TType.mk x54_0 x54_1 x54_2), (TType.mk x55_0 x55_1 x55_2)]), .frz 9 1 0 (eStrs [[97], [99]])]) [0] (w_l1Pick (Tl1Cur.mk x62_1_0 x62_1_1 x62_1_2) [[97], [99]] hx66) VY_e)) ?_
                  refine VT_h1 (VY_lb (T := 24) (us := eStrs [x66_0]) VY_e) ?_
                  refine VT_h1 (VY_apa (T := 24) g67 VY_e) ?_
                  refine goT ?_
                  refine VT_nil ?_
                  exact R_pk 1 [0, 1, 2, 3, 4, 5, 6, 7, 8, 9]
                refine VT_h1 (VY_lb (T := 24) (us := eStrs [[97], [99]]) VY_e) ?_
                refine VT_h (VY_dh VY_e) ?_ ?_
                · refine VT_h1 (VY_frz 8 rfl rfl (VY_cG (sv := .d (.s x66_0)) (L' := [.box [.d (.sl 1 (eBytes x66_1_0)), .d (.i .i64 x66_1_1), .d (.i .i64 x66_1_2)], .box [.d (.s []), .nilsl, .d (.i .i64 0), .d (.s []), .nilsl, .nilsl, .d (.b false), .d (.b false), .d (.i .i64 0), .d (.s []), .nilsl, .nilsl], .frz 9 1 0 (eStrs [[115, 104, 111, 119], [101, 113], [97, 100, 100]]), .frz 9 1 0 (eStrs [[120]]), .arr 65 11 0 (eMethods [(TMethod.mk [109] [[120]] (TExpr.mk x3_0 x3_1 x3_2 x3_3 (TType.mk x3_4_0 x3_4_1 x3_4_2) x3_5 x3_6))]), .box [.d (.s x1_0), .sl 6 0, .d (.i .i64 x56_0), .d (.s x56_1), .d (.sl 3 (eTypes x56_2)), .nilsl, .d (.b x61_0), .d (.b b58_3), .d (.i .i64 b58_4), .d (.s b58_5), .d (.sl 3 (eTypes b58_6)), .sl 4 0], .arr 9 1 0 (eStrs [[97], [98]]), .frz 27 3 0 (eTypes [(TType.mk x54_0 x54_1 x54_2), (TType.mk x55_0 x55_1 x55_2)]), .frz 9 1 0 (eStrs [[97], [99]])]) [0] (w_l1Pick (Tl1Cur.mk x62_1_0 x62_1_1 x62_1_2) [[97], [99]] hx66) VY_e)) ?_
                  refine VT_h1 (VY_lb (T := 24) (us := eStrs [x66_0]) VY_e) ?_
                  refine VT_h1 (VY_apa (T := 24) g67 VY_e) ?_
                  refine goT ?_
                  refine VT_nil ?_
                  exact R_pk 1 [0, 1, 2, 3, 4, 5, 6, 7, 8, 9]
                refine VT_h1 (VY_frz 8 rfl rfl (VY_cG (sv := .d (.s x66_0)) (L' := [.box [.d (.sl 1 (eBytes x66_1_0)), .d (.i .i64 x66_1_1), .d (.i .i64 x66_1_2)], .box [.d (.s []), .nilsl, .d (.i .i64 0), .d (.s []), .nilsl, .nilsl, .d (.b false), .d (.b false), .d (.i .i64 0), .d (.s []), .nilsl, .nilsl], .frz 9 1 0 (eStrs [[115, 104, 111, 119], [101, 113], [97, 100, 100]]), .frz 9 1 0 (eStrs [[120]]), .arr 65 11 0 (eMethods [(TMethod.mk [109] [[120]] (TExpr.mk x3_0 x3_1 x3_2 x3_3 (TType.mk x3_4_0 x3_4_1 x3_4_2) x3_5 x3_6))]), .box [.d (.s x1_0), .sl 6 0, .d (.i .i64 x56_0), .d (.s x56_1), .d (.sl 3 (eTypes x56_2)), .nilsl, .d (.b x61_0), .d (.b b58_3), .d (.i .i64 b58_4), .d (.s b58_5), .d (.sl 3 (eTypes b58_6)), .sl 4 0], .arr 9 1 0 (eStrs [[97], [98]]), .frz 27 3 0 (eTypes [(TType.mk x54_0 x54_1 x54_2), (TType.mk x55_0 x55_1 x55_2)]), .frz 9 1 0 (eStrs [[97], [99]])]) [0] (w_l1Pick (Tl1Cur.mk x62_1_0 x62_1_1 x62_1_2) [[97], [99]] hx66) VY_e)) ?_
                refine VT_h (VY_dh VY_e) ?_ ?_
                · refine VT_h1 (VY_lb (T := 24) (us := eStrs [x66_0]) VY_e) ?_
                  refine VT_h1 (VY_apa (T := 24) g67 VY_e) ?_
                  refine goT ?_
                  refine VT_nil ?_
                  exact R_pk 1 [0, 1, 2, 3, 4, 5, 6, 7, 8, 9]
                refine VT_h1 (VY_lb (T := 24) (us := eStrs [x66_0]) VY_e) ?_
                refine VT_h1 (VY_dh VY_e) ?_
                refine VT_h1 (VY_apa (T := 24) g67 VY_e) ?_
                refine goT ?_
                refine VT_nil ?_
                exact R_pk 1 [0, 1, 2, 3, 4, 5, 6, 7, 8, 9]
              refine VT_h1 (VY_lb (T := 24) (us := eStrs [[97], [99]]) VY_e) ?_
              refine VT_h (VY_dh VY_e) ?_ ?_
              · as_aux_lemma =>
                refine VT_h (VY_dh VY_e) ?_ ?_
                · refine VT_h1 (VY_frz 8 rfl rfl (VY_cG (sv := .d (.s x66_0)) (L' := [.box [.d (.sl 1 (eBytes x66_1_0)), .d (.i .i64 x66_1_1), .d (.i .i64 x66_1_2)], .box [.d (.s []), .nilsl, .d (.i .i64 0), .d (.s []), .nilsl, .nilsl, .d (.b false), .d (.b false), .d (.i .i64 0), .d (.s []), .nilsl, .nilsl], .frz 9 1 0 (eStrs [[115, 104, 111, 119], [101, 113], [97, 100, 100]]), .frz 9 1 0 (eStrs [[120]]), .arr 65 11 0 (eMethods [(TMethod.mk [109] [[120]] (TExpr.mk x3_0 x3_1 x3_2 x3_3 (TType.mk x3_4_0 x3_4_1 x3_4_2) x3_5 x3_6))]), .box [.d (.s x1_0), .sl 6 0, .d (.i .i64 x56_0), .d (.s x56_1), .d (.sl 3 (eTypes x56_2)), .nilsl, .d (.b x61_0), .d (.b b58_3), .d (.i .i64 b58_4), .d (.s b58_5), .d (.sl 3 (eTypes b58_6)), .sl 4 0], .arr 9 1 0 (eStrs [[97], [98]]), .frz 27 3 0 (eTypes [(TType.mk x54_0 x54_1 x54_2), (TType.mk x55_0 x55_1 x55_2)]), .frz 9 1 0 (eStrs [[97], [99]])]) [0] (w_l1Pick (Tl1Cur.mk x62_1_0 x62_1_1 x62_1_2) [[97], [99]] hx66) VY_e)) ?_
                  refine VT_h1 (VY_lb (T := 24) (us := eStrs [x66_0]) VY_e) ?_
                  refine VT_h1 (VY_apa (T := 24) g67 VY_e) ?_
                  refine goT ?_
                  refine VT_nil ?_
                  exact R_pk 1 [0, 1, 2, 3, 4, 5, 6, 7, 8, 9]
                refine VT_h1 (VY_frz 8 rfl rfl (VY_cG (sv := .d (.s x66_0)) (L' := [.box [.d (.sl 1 (eBytes x66_1_0)), .d (.i .i64 x66_1_1), .d (.i .i64 x66_1_2)], .box [.d (.s []), .nilsl, .d (.i .i64 0), .d (.s []), .nilsl, .nilsl, .d (.b false), .d (.b false), .d (.i .i64 0), .d (.s []), .nilsl, .nilsl], .frz 9 1 0 (eStrs [[115, 104, 111, 119], [101, 113], [97, 100, 100]]), .frz 9 1 0 (eStrs [[120]]), .arr 65 11 0 (eMethods [(TMethod.mk [109] [[120]] (TExpr.mk x3_0 x3_1 x3_2 x3_3 (TType.mk x3_4_0 x3_4_1 x3_4_2) x3_5 x3_6))]), .box [.d (.s x1_0), .sl 6 0, .d (.i .i64 x56_0), .d (.s x56_1), .d (.sl 3 (eTypes x56_2)), .nilsl, .d (.b x61_0), .d (.b b58_3), .d (.i .i64 b58_4), .d (.s b58_5), .d (.sl 3 (eTypes b58_6)), .sl 4 0], .arr 9 1 0 (eStrs [[97], [98]]), .frz 27 3 0 (eTypes [(TType.mk x54_0 x54_1 x54_2), (TType.mk x55_0 x55_1 x55_2)]), .frz 9 1 0 (eStrs [[97], [99]])]) [0] (w_l1Pick (Tl1Cur.mk x62_1_0 x62_1_1 x62_1_2) [[97], [99]] hx66) VY_e)) ?_
                refine VT_h (VY_dh VY_e) ?_ ?_
                · refine VT_h1 (VY_lb (T := 24) (us := eStrs [x66_0]) VY_e) ?_
                  refine VT_h1 (VY_apa (T := 24) g67 VY_e) ?_
                  refine goT ?_
                  refine VT_nil ?_
                  exact R_pk 1 [0, 1, 2, 3, 4, 5, 6, 7, 8, 9]
                refine VT_h1 (VY_lb (T := 24) (us := eStrs [x66_0]) VY_e) ?_
                refine VT_h1 (VY_dh VY_e) ?_
                refine VT_h1 (VY_apa (T := 24) g67 VY_e) ?_
                refine goT ?_
                refine VT_nil ?_
                exact R_pk 1 [0, 1, 2, 3, 4, 5, 6, 7, 8, 9]
              refine VT_h1 (VY_frz 8 rfl rfl (VY_cG (sv := .d (.s x66_0)) (L' := [.box [.d (.sl 1 (eBytes x66_1_0)), .d (.i .i64 x66_1_1), .d (.i .i64 x66_1_2)], .box [.d (.s []), .nilsl, .d (.i .i64 0), .d (.s []), .nilsl, .nilsl, .d (.b false), .d (.b false), .d (.i .i64 0), .d (.s []), .nilsl, .nilsl], .frz 9 1 0 (eStrs [[115, 104, 111, 119], [101, 113], [97, 100, 100]]), .frz 9 1 0 (eStrs [[120]]), .arr 65 11 0 (eMethods [(TMethod.mk [109] [[120]] (TExpr.mk x3_0 x3_1 x3_2 x3_3 (TType.mk x3_4_0 x3_4_1 x3_4_2) x3_5 x3_6))]), .box [.d (.s x1_0), .sl 6 0, .d (.i .i64 x56_0), .d (.s x56_1), .d (.sl 3 (eTypes x56_2)), .nilsl, .d (.b x61_0), .d (.b b58_3), .d (.i .i64 b58_4), .d (.s b58_5), .d (.sl 3 (eTypes b58_6)), .sl 4 0], .arr 9 1 0 (eStrs [[97], [98]]), .frz 27 3 0 (eTypes [(TType.mk x54_0 x54_1 x54_2), (TType.mk x55_0 x55_1 x55_2)]), .frz 9 1 0 (eStrs [[97], [99]])]) [0] (w_l1Pick (Tl1Cur.mk x62_1_0 x62_1_1 x62_1_2) [[97], [99]] hx66) VY_e)) ?_
              refine VT_h (VY_dh VY_e) ?_ ?_
              · as_aux_lemma =>
                refine VT_h (VY_dh VY_e) ?_ ?_
                · refine VT_h1 (VY_lb (T := 24) (us := eStrs [x66_0]) VY_e) ?_
                  refine VT_h1 (VY_apa (T := 24) g67 VY_e) ?_
                  refine goT ?_
                  refine VT_nil ?_
                  exact R_pk 1 [0, 1, 2, 3, 4, 5, 6, 7, 8, 9]
                refine VT_h1 (VY_lb (T := 24) (us := eStrs [x66_0]) VY_e) ?_
                refine VT_h1 (VY_dh VY_e) ?_
                refine VT_h1 (VY_apa (T := 24) g67 VY_e) ?_
                refine goT ?_
                refine VT_nil ?_
                exact R_pk 1 [0, 1, 2, 3, 4, 5, 6, 7, 8, 9]
              refine VT_h1 (VY_lb (T := 24) (us := eStrs [x66_0]) VY_e) ?_
              refine VT_h1 (VY_dh VY_e) ?_
              refine VT_h1 (VY_dh VY_e) ?_
              refine VT_h1 (VY_apa (T := 24) g67 VY_e) ?_
              refine goT ?_
              refine VT_nil ?_
              exact R_pk 1 [0, 1, 2, 3, 4, 5, 6, 7, 8, 9]
            refine goL ?_
            refine V_freeze 6 rfl rfl ?_
            refine V_freeze 4 rfl rfl ?_
            refine V_ret ?_
            replace h := Option.some.inj h
            subst h
            exact R_rF [.d (.st [.s x1_0, .sl 1 (eStrs ([[97], [98]] ++ [x66_0])), .st [.i .i64 x56_0, .s x56_1, .sl 3 (eTypes x56_2)], .sl 4 [], .b x61_0, .b b58_3, .st [.i .i64 b58_4, .s b58_5, .sl 3 (eTypes b58_6)], .sl 11 (eMethods [(TMethod.mk [109] [[120]] (TExpr.mk x3_0 x3_1 x3_2 x3_3 (TType.mk x3_4_0 x3_4_1 x3_4_2) x3_5 x3_6))])])] [.box [.d (.sl 1 (eBytes x66_1_0)), .d (.i .i64 x66_1_1), .d (.i .i64 x66_1_2)]] ⟨rfl, rfl⟩
          · as_aux_lemma =>
            replace h := cnd_f c65 h
            refine goL ?_
            refine V_cb (fun c68 => ?_) (fun c68 => ?_)
            · as_aux_lemma =>
              replace h := cnd_t c68 h
              refine V_adoptA 69 4 5 5 rfl rfl (by repeat constructor) (by repeat constructor) (by repeat constructor) (by repeat constructor) ?_
              obtain ⟨x69, hx69, h⟩ := bnd_s h
              obtain ⟨⟨x69_0_0, x69_0_1, x69_0_2⟩, ⟨x69_1_0, x69_1_1, x69_1_2⟩⟩ := x69
              obtain ⟨g70, h⟩ := gd_s h
              refine V_drawTJ (P := Try.prog) Mix.h (.q 2 (.h 0 (.h 1 (.h 3 (.q 4 (.h 5 (.h 6 (.q 7 (.h 8 .nil .nil)) .nil) .nil)) .nil) (.h 3 (.q 4 (.h 1 (.h 5 (.h 6 (.q 7 (.h 8 .nil .nil)) .nil) .nil) (.h 5 (.h 1 (.h 6 (.q 7 (.h 8 .nil .nil)) .nil) .nil) .nil))) .nil)) (.h 3 (.q 4 (.h 0 (.h 1 (.h 5 (.h 6 (.q 7 (.h 8 .nil .nil)) .nil) .nil) (.h 5 (.h 1 (.h 6 (.q 7 (.h 8 .nil .nil)) .nil) .nil) .nil)) (.h 5 (.h 0 (.h 1 (.h 6 (.q 7 (.h 8 .nil .nil)) .nil) .nil) .nil) .nil))) .nil))) ⟨[(2, .ptr 1 0), (3, .ptr 5 0)], [.box [.d (.sl 1 (eBytes x69_1_0)), .d (.i .i64 x69_1_1), .d (.i .i64 x69_1_2)], .box [.d (.s []), .nilsl, .d (.i .i64 0), .d (.s []), .nilsl, .nilsl, .d (.b false), .d (.b false), .d (.i .i64 0), .d (.s []), .nilsl, .nilsl], .frz 9 1 0 (eStrs [[115, 104, 111, 119], [101, 113], [97, 100, 100]]), .frz 9 1 0 (eStrs [[120]]), .arr 65 11 0 (eMethods [(TMethod.mk [109] [[120]] (TExpr.mk x3_0 x3_1 x3_2 x3_3 (TType.mk x3_4_0 x3_4_1 x3_4_2) x3_5 x3_6))]), .box [.d (.s x1_0), .sl 6 0, .d (.i .i64 x56_0), .d (.s x56_1), .d (.sl 3 (eTypes x56_2)), .sl 8 (0 + 1), .d (.b x61_0), .d (.b b58_3), .d (.i .i64 b58_4), .d (.s b58_5), .d (.sl 3 (eTypes b58_6)), .sl 4 0], .arr 9 1 0 (eStrs [[97], [98]]), .frz 27 3 0 (eTypes [(TType.mk x54_0 x54_1 x54_2), (TType.mk x55_0 x55_1 x55_2)]), .arr 69 4 (0 + 1) (eBounds ([] ++ [(TBound.mk [101, 113] (TType.mk x69_0_0 x69_0_1 x69_0_2))])), .arr 69 4 0 (eBounds [(TBound.mk [101, 113] (TType.mk x69_0_0 x69_0_1 x69_0_2))])], Try.f17.ntmps⟩ (by kernel_rfl) ?_ ?_
              · as_aux_lemma =>
                refine goT ?_
                refine VT_h (VY_dh VY_e) ?_ ?_
                · as_aux_lemma =>
                  refine VT_h (VY_dh VY_e) ?_ ?_
                  · refine VT_h1 (VY_cG (sv := .d (.st [.i .i64 x69_0_0, .s x69_0_1, .sl 3 (eTypes x69_0_2)])) (L' := [.box [.d (.sl 1 (eBytes x69_1_0)), .d (.i .i64 x69_1_1), .d (.i .i64 x69_1_2)], .box [.d (.s []), .nilsl, .d (.i .i64 0), .d (.s []), .nilsl, .nilsl, .d (.b false), .d (.b false), .d (.i .i64 0), .d (.s []), .nilsl, .nilsl], .frz 9 1 0 (eStrs [[115, 104, 111, 119], [101, 113], [97, 100, 100]]), .frz 9 1 0 (eStrs [[120]]), .arr 65 11 0 (eMethods [(TMethod.mk [109] [[120]] (TExpr.mk x3_0 x3_1 x3_2 x3_3 (TType.mk x3_4_0 x3_4_1 x3_4_2) x3_5 x3_6))]), .box [.d (.s x1_0), .sl 6 0, .d (.i .i64 x56_0), .d (.s x56_1), .d (.sl 3 (eTypes x56_2)), .sl 8 0, .d (.b x61_0), .d (.b b58_3), .d (.i .i64 b58_4), .d (.s b58_5), .d (.sl 3 (eTypes b58_6)), .sl 4 0], .arr 9 1 0 (eStrs [[97], [98]]), .frz 27 3 0 (eTypes [(TType.mk x54_0 x54_1 x54_2), (TType.mk x55_0 x55_1 x55_2)]), .arr 69 4 0 []]) [0] (w_l4Free (Tl1Cur.mk x62_1_0 x62_1_1 x62_1_2) 1 hx69) VY_e) ?_
                    refine goT ?_
                    refine VT_h1 (VY_lb (T := 28) (us := eBounds [(TBound.mk [101, 113] (TType.mk x69_0_0 x69_0_1 x69_0_2))]) VY_e) ?_
                    refine VT_h1 (VY_apa (T := 28) g70 VY_e) ?_
                    refine goT ?_
                    refine VT_nil ?_
                    exact R_pk 1 [0, 1, 2, 3, 4, 5, 6, 7, 8, 9]
                  refine VT_h1 (VY_cG (sv := .d (.st [.i .i64 x69_0_0, .s x69_0_1, .sl 3 (eTypes x69_0_2)])) (L' := [.box [.d (.sl 1 (eBytes x69_1_0)), .d (.i .i64 x69_1_1), .d (.i .i64 x69_1_2)], .box [.d (.s []), .nilsl, .d (.i .i64 0), .d (.s []), .nilsl, .nilsl, .d (.b false), .d (.b false), .d (.i .i64 0), .d (.s []), .nilsl, .nilsl], .frz 9 1 0 (eStrs [[115, 104, 111, 119], [101, 113], [97, 100, 100]]), .frz 9 1 0 (eStrs [[120]]), .arr 65 11 0 (eMethods [(TMethod.mk [109] [[120]] (TExpr.mk x3_0 x3_1 x3_2 x3_3 (TType.mk x3_4_0 x3_4_1 x3_4_2) x3_5 x3_6))]), .box [.d (.s x1_0), .sl 6 0, .d (.i .i64 x56_0), .d (.s x56_1), .d (.sl 3 (eTypes x56_2)), .sl 8 0, .d (.b x61_0), .d (.b b58_3), .d (.i .i64 b58_4), .d (.s b58_5), .d (.sl 3 (eTypes b58_6)), .sl 4 0], .arr 9 1 0 (eStrs [[97], [98]]), .frz 27 3 0 (eTypes [(TType.mk x54_0 x54_1 x54_2), (TType.mk x55_0 x55_1 x55_2)]), .arr 69 4 0 []]) [0] (w_l4Free (Tl1Cur.mk x62_1_0 x62_1_1 x62_1_2) 1 hx69) VY_e) ?_
                  refine goT ?_
                  refine VT_h (VY_dh VY_e) ?_ ?_
                  · refine VT_h1 (VY_lb (T := 28) (us := eBounds [(TBound.mk [101, 113] (TType.mk x69_0_0 x69_0_1 x69_0_2))]) VY_e) ?_
                    refine VT_h1 (VY_apa (T := 28) g70 VY_e) ?_
                    refine goT ?_
                    refine VT_nil ?_
                    exact R_pk 1 [0, 1, 2, 3, 4, 5, 6, 7, 8, 9]
                  refine VT_h1 (VY_lb (T := 28) (us := eBounds [(TBound.mk [101, 113] (TType.mk x69_0_0 x69_0_1 x69_0_2))]) VY_e) ?_
                  refine VT_h1 (VY_dh VY_e) ?_
                  refine VT_h1 (VY_apa (T := 28) g70 VY_e) ?_
                  refine goT ?_
                  refine VT_nil ?_
                  exact R_pk 1 [0, 1, 2, 3, 4, 5, 6, 7, 8, 9]
                refine VT_h1 (VY_cG (sv := .d (.st [.i .i64 x69_0_0, .s x69_0_1, .sl 3 (eTypes x69_0_2)])) (L' := [.box [.d (.sl 1 (eBytes x69_1_0)), .d (.i .i64 x69_1_1), .d (.i .i64 x69_1_2)], .box [.d (.s []), .nilsl, .d (.i .i64 0), .d (.s []), .nilsl, .nilsl, .d (.b false), .d (.b false), .d (.i .i64 0), .d (.s []), .nilsl, .nilsl], .frz 9 1 0 (eStrs [[115, 104, 111, 119], [101, 113], [97, 100, 100]]), .frz 9 1 0 (eStrs [[120]]), .arr 65 11 0 (eMethods [(TMethod.mk [109] [[120]] (TExpr.mk x3_0 x3_1 x3_2 x3_3 (TType.mk x3_4_0 x3_4_1 x3_4_2) x3_5 x3_6))]), .box [.d (.s x1_0), .sl 6 0, .d (.i .i64 x56_0), .d (.s x56_1), .d (.sl 3 (eTypes x56_2)), .sl 8 0, .d (.b x61_0), .d (.b b58_3), .d (.i .i64 b58_4), .d (.s b58_5), .d (.sl 3 (eTypes b58_6)), .sl 4 0], .arr 9 1 0 (eStrs [[97], [98]]), .frz 27 3 0 (eTypes [(TType.mk x54_0 x54_1 x54_2), (TType.mk x55_0 x55_1 x55_2)]), .arr 69 4 0 []]) [0] (w_l4Free (Tl1Cur.mk x62_1_0 x62_1_1 x62_1_2) 1 hx69) VY_e) ?_
                refine goT ?_
                refine VT_h (VY_dh VY_e) ?_ ?_
                · as_aux_lemma =>
                  refine VT_h (VY_dh VY_e) ?_ ?_
                  · refine VT_h1 (VY_lb (T := 28) (us := eBounds [(TBound.mk [101, 113] (TType.mk x69_0_0 x69_0_1 x69_0_2))]) VY_e) ?_
                    refine VT_h1 (VY_apa (T := 28) g70 VY_e) ?_
                    refine goT ?_
                    refine VT_nil ?_
                    exact R_pk 1 [0, 1, 2, 3, 4, 5, 6, 7, 8, 9]
                  refine VT_h1 (VY_lb (T := 28) (us := eBounds [(TBound.mk [101, 113] (TType.mk x69_0_0 x69_0_1 x69_0_2))]) VY_e) ?_
                  refine VT_h1 (VY_dh VY_e) ?_
                  refine VT_h1 (VY_apa (T := 28) g70 VY_e) ?_
                  refine goT ?_
                  refine VT_nil ?_
                  exact R_pk 1 [0, 1, 2, 3, 4, 5, 6, 7, 8, 9]
                refine VT_h1 (VY_lb (T := 28) (us := eBounds [(TBound.mk [101, 113] (TType.mk x69_0_0 x69_0_1 x69_0_2))]) VY_e) ?_
                refine VT_h1 (VY_dh VY_e) ?_
                refine VT_h1 (VY_dh VY_e) ?_
                refine VT_h1 (VY_apa (T := 28) g70 VY_e) ?_
                refine goT ?_
                refine VT_nil ?_
                exact R_pk 1 [0, 1, 2, 3, 4, 5, 6, 7, 8, 9]
              refine goL ?_
              refine V_freeze 6 rfl rfl ?_
              refine V_freeze 8 rfl rfl ?_
              refine V_freeze 4 rfl rfl ?_
              refine V_ret ?_
              replace h := Option.some.inj h
              subst h
              exact R_rF [.d (.st [.s x1_0, .sl 1 (eStrs [[97], [98]]), .st [.i .i64 x56_0, .s x56_1, .sl 3 (eTypes x56_2)], .sl 4 (eBounds ([] ++ [(TBound.mk [101, 113] (TType.mk x69_0_0 x69_0_1 x69_0_2))])), .b x61_0, .b b58_3, .st [.i .i64 b58_4, .s b58_5, .sl 3 (eTypes b58_6)], .sl 11 (eMethods [(TMethod.mk [109] [[120]] (TExpr.mk x3_0 x3_1 x3_2 x3_3 (TType.mk x3_4_0 x3_4_1 x3_4_2) x3_5 x3_6))])])] [.box [.d (.sl 1 (eBytes x69_1_0)), .d (.i .i64 x69_1_1), .d (.i .i64 x69_1_2)]] ⟨rfl, rfl⟩
            · as_aux_lemma =>
              replace h := cnd_f c68 h
              refine goL ?_
              refine V_cb (fun c71 => ?_) (fun c71 => ?_)
              · as_aux_lemma =>
                replace h := cnd_t c71 h
                obtain ⟨x72, hx72, h⟩ := bnd_s h
                obtain ⟨⟨x72_0_0, x72_0_1, x72_0_2, x72_0_3, ⟨x72_0_4_0, x72_0_4_1, x72_0_4_2⟩, x72_0_5, x72_0_6⟩, ⟨x72_1_0, x72_1_1, x72_1_2⟩⟩ := x72
                obtain ⟨x73, hx73, h⟩ := bnd_s h
                obtain ⟨hx730, hx73⟩ := at_s hx73
                obtain ⟨x73_0, x73_1, ⟨x73_2_0, x73_2_1, x73_2_2, x73_2_3, ⟨x73_2_4_0, x73_2_4_1, x73_2_4_2⟩, x73_2_5, x73_2_6⟩⟩ := x73
                refine V_drawTJ (P := Try.prog) Mix.h (.q 2 (.h 0 (.h 1 (.h 3 (.h 4 (.h 5 (.h 6 (.h 7 .nil .nil) .nil) .nil) .nil) .nil) (.h 3 (.h 1 (.h 4 (.h 5 (.h 6 (.h 7 .nil .nil) .nil) .nil) .nil) (.h 4 (.h 1 (.h 5 (.h 6 (.h 7 .nil .nil) .nil) .nil) .nil) .nil)) .nil)) (.h 3 (.h 0 (.h 1 (.h 4 (.h 5 (.h 6 (.h 7 .nil .nil) .nil) .nil) .nil) (.h 4 (.h 1 (.h 5 (.h 6 (.h 7 .nil .nil) .nil) .nil) .nil) .nil)) (.h 4 (.h 0 (.h 1 (.h 5 (.h 6 (.h 7 .nil .nil) .nil) .nil) .nil) .nil) .nil)) .nil))) ⟨[(2, .ptr 1 0), (3, .ptr 5 0)], [.box [.d (.sl 1 (eBytes x72_1_0)), .d (.i .i64 x72_1_1), .d (.i .i64 x72_1_2)], .box [.d (.s []), .nilsl, .d (.i .i64 0), .d (.s []), .nilsl, .nilsl, .d (.b false), .d (.b false), .d (.i .i64 0), .d (.s []), .nilsl, .nilsl], .frz 9 1 0 (eStrs [[115, 104, 111, 119], [101, 113], [97, 100, 100]]), .frz 9 1 0 (eStrs [[120]]), .arr 65 11 0 (eMethods ([(TMethod.mk [109] [[120]] (TExpr.mk x3_0 x3_1 x3_2 x3_3 (TType.mk x3_4_0 x3_4_1 x3_4_2) x3_5 x3_6))].set 0 (TMethod.mk x73_0 x73_1 (TExpr.mk x72_0_0 x72_0_1 x72_0_2 x72_0_3 (TType.mk x72_0_4_0 x72_0_4_1 x72_0_4_2) x72_0_5 x72_0_6)))), .box [.d (.s x1_0), .sl 6 0, .d (.i .i64 x56_0), .d (.s x56_1), .d (.sl 3 (eTypes x56_2)), .nilsl, .d (.b x61_0), .d (.b b58_3), .d (.i .i64 b58_4), .d (.s b58_5), .d (.sl 3 (eTypes b58_6)), .sl 4 0], .arr 9 1 0 (eStrs [[97], [98]]), .frz 27 3 0 (eTypes [(TType.mk x54_0 x54_1 x54_2), (TType.mk x55_0 x55_1 x55_2)]), .frz 9 1 0 (eStrs [[120], [121]])], Try.f17.ntmps⟩ (by kernel_rfl) ?_ ?_
                · as_aux_lemma =>
                  refine goT ?_
                  refine VT_h (VY_dh VY_e) ?_ ?_
                  · as_aux_lemma =>
                    refine VT_h (VY_dh VY_e) ?_ ?_
                    · refine VT_h1 (VY_lb (T := 24) (us := eStrs [[120], [121]]) VY_e) ?_
                      refine VT_h1 (VY_frz 8 rfl rfl (VY_cG (sv := .d (.st [.i .i64 x72_0_0, .s x72_0_1, .s x72_0_2, .i .i64 x72_0_3, .st [.i .i64 x72_0_4_0, .s x72_0_4_1, .sl 3 (eTypes x72_0_4_2)], .sl 9 (eExprs x72_0_5), .sl 11 (eArms x72_0_6)])) (L' := [.box [.d (.sl 1 (eBytes x72_1_0)), .d (.i .i64 x72_1_1), .d (.i .i64 x72_1_2)], .box [.d (.s []), .nilsl, .d (.i .i64 0), .d (.s []), .nilsl, .nilsl, .d (.b false), .d (.b false), .d (.i .i64 0), .d (.s []), .nilsl, .nilsl], .frz 9 1 0 (eStrs [[115, 104, 111, 119], [101, 113], [97, 100, 100]]), .frz 9 1 0 (eStrs [[120]]), .arr 65 11 0 (eMethods [(TMethod.mk [109] [[120]] (TExpr.mk x3_0 x3_1 x3_2 x3_3 (TType.mk x3_4_0 x3_4_1 x3_4_2) x3_5 x3_6))]), .box [.d (.s x1_0), .sl 6 0, .d (.i .i64 x56_0), .d (.s x56_1), .d (.sl 3 (eTypes x56_2)), .nilsl, .d (.b x61_0), .d (.b b58_3), .d (.i .i64 b58_4), .d (.s b58_5), .d (.sl 3 (eTypes b58_6)), .sl 4 0], .arr 9 1 0 (eStrs [[97], [98]]), .frz 27 3 0 (eTypes [(TType.mk x54_0 x54_1 x54_2), (TType.mk x55_0 x55_1 x55_2)]), .frz 9 1 0 (eStrs [[120], [121]])]) [0] (s_l11Expr 8 (Tl1Cur.mk x62_1_0 x62_1_1 x62_1_2) [[120], [121]] 2 hx72) VY_e)) ?_
                      refine VT_h1 (VY_ixa 0 (List.getElem?_eq_some_iff.1 hx73).1 VY_e) ?_
                      refine VT_h1 (VY_fla VY_e) ?_
                      refine VT_h1 (VY_stm [(.s x73_0), (.sl 1 (eStrs x73_1))] [] (.st [.i .i64 x73_2_0, .s x73_2_1, .s x73_2_2, .i .i64 x73_2_3, .st [.i .i64 x73_2_4_0, .s x73_2_4_1, .sl 3 (eTypes x73_2_4_2)], .sl 9 (eExprs x73_2_5), .sl 11 (eArms x73_2_6)]) (.st [.i .i64 x72_0_0, .s x72_0_1, .s x72_0_2, .i .i64 x72_0_3, .st [.i .i64 x72_0_4_0, .s x72_0_4_1, .sl 3 (eTypes x72_0_4_2)], .sl 9 (eExprs x72_0_5), .sl 11 (eArms x72_0_6)]) (TMethod.mk x73_0 x73_1 (TExpr.mk x73_2_0 x73_2_1 x73_2_2 x73_2_3 (TType.mk x73_2_4_0 x73_2_4_1 x73_2_4_2) x73_2_5 x73_2_6)) (TMethod.mk x73_0 x73_1 (TExpr.mk x72_0_0 x72_0_1 x72_0_2 x72_0_3 (TType.mk x72_0_4_0 x72_0_4_1 x72_0_4_2) x72_0_5 x72_0_6)) hx73 VY_e) ?_
                      refine VT_nil ?_
                      exact R_pk 1 [0, 1, 2, 3, 4, 5, 6, 7, 8]
                    refine VT_h1 (VY_lb (T := 24) (us := eStrs [[120], [121]]) VY_e) ?_
                    refine VT_h (VY_dh VY_e) ?_ ?_
                    · refine VT_h1 (VY_frz 8 rfl rfl (VY_cG (sv := .d (.st [.i .i64 x72_0_0, .s x72_0_1, .s x72_0_2, .i .i64 x72_0_3, .st [.i .i64 x72_0_4_0, .s x72_0_4_1, .sl 3 (eTypes x72_0_4_2)], .sl 9 (eExprs x72_0_5), .sl 11 (eArms x72_0_6)])) (L' := [.box [.d (.sl 1 (eBytes x72_1_0)), .d (.i .i64 x72_1_1), .d (.i .i64 x72_1_2)], .box [.d (.s []), .nilsl, .d (.i .i64 0), .d (.s []), .nilsl, .nilsl, .d (.b false), .d (.b false), .d (.i .i64 0), .d (.s []), .nilsl, .nilsl], .frz 9 1 0 (eStrs [[115, 104, 111, 119], [101, 113], [97, 100, 100]]), .frz 9 1 0 (eStrs [[120]]), .arr 65 11 0 (eMethods [(TMethod.mk [109] [[120]] (TExpr.mk x3_0 x3_1 x3_2 x3_3 (TType.mk x3_4_0 x3_4_1 x3_4_2) x3_5 x3_6))]), .box [.d (.s x1_0), .sl 6 0, .d (.i .i64 x56_0), .d (.s x56_1), .d (.sl 3 (eTypes x56_2)), .nilsl, .d (.b x61_0), .d (.b b58_3), .d (.i .i64 b58_4), .d (.s b58_5), .d (.sl 3 (eTypes b58_6)), .sl 4 0], .arr 9 1 0 (eStrs [[97], [98]]), .frz 27 3 0 (eTypes [(TType.mk x54_0 x54_1 x54_2), (TType.mk x55_0 x55_1 x55_2)]), .frz 9 1 0 (eStrs [[120], [121]])]) [0] (s_l11Expr 8 (Tl1Cur.mk x62_1_0 x62_1_1 x62_1_2) [[120], [121]] 2 hx72) VY_e)) ?_
                      refine VT_h1 (VY_ixa 0 (List.getElem?_eq_some_iff.1 hx73).1 VY_e) ?_
                      refine VT_h1 (VY_fla VY_e) ?_
                      refine VT_h1 (VY_stm [(.s x73_0), (.sl 1 (eStrs x73_1))] [] (.st [.i .i64 x73_2_0, .s x73_2_1, .s x73_2_2, .i .i64 x73_2_3, .st [.i .i64 x73_2_4_0, .s x73_2_4_1, .sl 3 (eTypes x73_2_4_2)], .sl 9 (eExprs x73_2_5), .sl 11 (eArms x73_2_6)]) (.st [.i .i64 x72_0_0, .s x72_0_1, .s x72_0_2, .i .i64 x72_0_3, .st [.i .i64 x72_0_4_0, .s x72_0_4_1, .sl 3 (eTypes x72_0_4_2)], .sl 9 (eExprs x72_0_5), .sl 11 (eArms x72_0_6)]) (TMethod.mk x73_0 x73_1 (TExpr.mk x73_2_0 x73_2_1 x73_2_2 x73_2_3 (TType.mk x73_2_4_0 x73_2_4_1 x73_2_4_2) x73_2_5 x73_2_6)) (TMethod.mk x73_0 x73_1 (TExpr.mk x72_0_0 x72_0_1 x72_0_2 x72_0_3 (TType.mk x72_0_4_0 x72_0_4_1 x72_0_4_2) x72_0_5 x72_0_6)) hx73 VY_e) ?_
                      refine VT_nil ?_
                      exact R_pk 1 [0, 1, 2, 3, 4, 5, 6, 7, 8]
                    refine VT_h1 (VY_frz 8 rfl rfl (VY_cG (sv := .d (.st [.i .i64 x72_0_0, .s x72_0_1, .s x72_0_2, .i .i64 x72_0_3, .st [.i .i64 x72_0_4_0, .s x72_0_4_1, .sl 3 (eTypes x72_0_4_2)], .sl 9 (eExprs x72_0_5), .sl 11 (eArms x72_0_6)])) (L' := [.box [.d (.sl 1 (eBytes x72_1_0)), .d (.i .i64 x72_1_1), .d (.i .i64 x72_1_2)], .box [.d (.s []), .nilsl, .d (.i .i64 0), .d (.s []), .nilsl, .nilsl, .d (.b false), .d (.b false), .d (.i .i64 0), .d (.s []), .nilsl, .nilsl], .frz 9 1 0 (eStrs [[115, 104, 111, 119], [101, 113], [97, 100, 100]]), .frz 9 1 0 (eStrs [[120]]), .arr 65 11 0 (eMethods [(TMethod.mk [109] [[120]] (TExpr.mk x3_0 x3_1 x3_2 x3_3 (TType.mk x3_4_0 x3_4_1 x3_4_2) x3_5 x3_6))]), .box [.d (.s x1_0), .sl 6 0, .d (.i .i64 x56_0), .d (.s x56_1), .d (.sl 3 (eTypes x56_2)), .nilsl, .d (.b x61_0), .d (.b b58_3), .d (.i .i64 b58_4), .d (.s b58_5), .d (.sl 3 (eTypes b58_6)), .sl 4 0], .arr 9 1 0 (eStrs [[97], [98]]), .frz 27 3 0 (eTypes [(TType.mk x54_0 x54_1 x54_2), (TType.mk x55_0 x55_1 x55_2)]), .frz 9 1 0 (eStrs [[120], [121]])]) [0] (s_l11Expr 8 (Tl1Cur.mk x62_1_0 x62_1_1 x62_1_2) [[120], [121]] 2 hx72) VY_e)) ?_
                    refine VT_h1 (VY_dh VY_e) ?_
                    refine VT_h1 (VY_ixa 0 (List.getElem?_eq_some_iff.1 hx73).1 VY_e) ?_
                    refine VT_h1 (VY_fla VY_e) ?_
                    refine VT_h1 (VY_stm [(.s x73_0), (.sl 1 (eStrs x73_1))] [] (.st [.i .i64 x73_2_0, .s x73_2_1, .s x73_2_2, .i .i64 x73_2_3, .st [.i .i64 x73_2_4_0, .s x73_2_4_1, .sl 3 (eTypes x73_2_4_2)], .sl 9 (eExprs x73_2_5), .sl 11 (eArms x73_2_6)]) (.st [.i .i64 x72_0_0, .s x72_0_1, .s x72_0_2, .i .i64 x72_0_3, .st [.i .i64 x72_0_4_0, .s x72_0_4_1, .sl 3 (eTypes x72_0_4_2)], .sl 9 (eExprs x72_0_5), .sl 11 (eArms x72_0_6)]) (TMethod.mk x73_0 x73_1 (TExpr.mk x73_2_0 x73_2_1 x73_2_2 x73_2_3 (TType.mk x73_2_4_0 x73_2_4_1 x73_2_4_2) x73_2_5 x73_2_6)) (TMethod.mk x73_0 x73_1 (TExpr.mk x72_0_0 x72_0_1 x72_0_2 x72_0_3 (TType.mk x72_0_4_0 x72_0_4_1 x72_0_4_2) x72_0_5 x72_0_6)) hx73 VY_e) ?_
                    refine VT_nil ?_
                    exact R_pk 1 [0, 1, 2, 3, 4, 5, 6, 7, 8]
                  refine VT_h1 (VY_lb (T := 24) (us := eStrs [[120], [121]]) VY_e) ?_
                  refine VT_h (VY_dh VY_e) ?_ ?_
                  · as_aux_lemma =>
                    refine VT_h (VY_dh VY_e) ?_ ?_
                    · refine VT_h1 (VY_frz 8 rfl rfl (VY_cG (sv := .d (.st [.i .i64 x72_0_0, .s x72_0_1, .s x72_0_2, .i .i64 x72_0_3, .st [.i .i64 x72_0_4_0, .s x72_0_4_1, .sl 3 (eTypes x72_0_4_2)], .sl 9 (eExprs x72_0_5), .sl 11 (eArms x72_0_6)])) (L' := [.box [.d (.sl 1 (eBytes x72_1_0)), .d (.i .i64 x72_1_1), .d (.i .i64 x72_1_2)], .box [.d (.s []), .nilsl, .d (.i .i64 0), .d (.s []), .nilsl, .nilsl, .d (.b false), .d (.b false), .d (.i .i64 0), .d (.s []), .nilsl, .nilsl], .frz 9 1 0 (eStrs [[115, 104, 111, 119], [101, 113], [97, 100, 100]]), .frz 9 1 0 (eStrs [[120]]), .arr 65 11 0 (eMethods [(TMethod.mk [109] [[120]] (TExpr.mk x3_0 x3_1 x3_2 x3_3 (TType.mk x3_4_0 x3_4_1 x3_4_2) x3_5 x3_6))]), .box [.d (.s x1_0), .sl 6 0, .d (.i .i64 x56_0), .d (.s x56_1), .d (.sl 3 (eTypes x56_2)), .nilsl, .d (.b x61_0), .d (.b b58_3), .d (.i .i64 b58_4), .d (.s b58_5), .d (.sl 3 (eTypes b58_6)), .sl 4 0], .arr 9 1 0 (eStrs [[97], [98]]), .frz 27 3 0 (eTypes [(TType.mk x54_0 x54_1 x54_2), (TType.mk x55_0 x55_1 x55_2)]), .frz 9 1 0 (eStrs [[120], [121]])]) [0] (s_l11Expr 8 (Tl1Cur.mk x62_1_0 x62_1_1 x62_1_2) [[120], [121]] 2 hx72) VY_e)) ?_
                      refine VT_h1 (VY_ixa 0 (List.getElem?_eq_some_iff.1 hx73).1 VY_e) ?_
                      refine VT_h1 (VY_fla VY_e) ?_
                      refine VT_h1 (VY_stm [(.s x73_0), (.sl 1 (eStrs x73_1))] [] (.st [.i .i64 x73_2_0, .s x73_2_1, .s x73_2_2, .i .i64 x73_2_3, .st [.i .i64 x73_2_4_0, .s x73_2_4_1, .sl 3 (eTypes x73_2_4_2)], .sl 9 (eExprs x73_2_5), .sl 11 (eArms x73_2_6)]) (.st [.i .i64 x72_0_0, .s x72_0_1, .s x72_0_2, .i .i64 x72_0_3, .st [.i .i64 x72_0_4_0, .s x72_0_4_1, .sl 3 (eTypes x72_0_4_2)], .sl 9 (eExprs x72_0_5), .sl 11 (eArms x72_0_6)]) (TMethod.mk x73_0 x73_1 (TExpr.mk x73_2_0 x73_2_1 x73_2_2 x73_2_3 (TType.mk x73_2_4_0 x73_2_4_1 x73_2_4_2) x73_2_5 x73_2_6)) (TMethod.mk x73_0 x73_1 (TExpr.mk x72_0_0 x72_0_1 x72_0_2 x72_0_3 (TType.mk x72_0_4_0 x72_0_4_1 x72_0_4_2) x72_0_5 x72_0_6)) hx73 VY_e) ?_
                      refine VT_nil ?_
                      exact R_pk 1 [0, 1, 2, 3, 4, 5, 6, 7, 8]
                    refine VT_h1 (VY_frz 8 rfl rfl (VY_cG (sv := .d (.st [.i .i64 x72_0_0, .s x72_0_1, .s x72_0_2, .i .i64 x72_0_3, .st [.i .i64 x72_0_4_0, .s x72_0_4_1, .sl 3 (eTypes x72_0_4_2)], .sl 9 (eExprs x72_0_5), .sl 11 (eArms x72_0_6)])) (L' := [.box [.d (.sl 1 (eBytes x72_1_0)), .d (.i .i64 x72_1_1), .d (.i .i64 x72_1_2)], .box [.d (.s []), .nilsl, .d (.i .i64 0), .d (.s []), .nilsl, .nilsl, .d (.b false), .d (.b false), .d (.i .i64 0), .d (.s []), .nilsl, .nilsl], .frz 9 1 0 (eStrs [[115, 104, 111, 119], [101, 113], [97, 100, 100]]), .frz 9 1 0 (eStrs [[120]]), .arr 65 11 0 (eMethods [(TMethod.mk [109] [[120]] (TExpr.mk x3_0 x3_1 x3_2 x3_3 (TType.mk x3_4_0 x3_4_1 x3_4_2) x3_5 x3_6))]), .box [.d (.s x1_0), .sl 6 0, .d (.i .i64 x56_0), .d (.s x56_1), .d (.sl 3 (eTypes x56_2)), .nilsl, .d (.b x61_0), .d (.b b58_3), .d (.i .i64 b58_4), .d (.s b58_5), .d (.sl 3 (eTypes b58_6)), .sl 4 0], .arr 9 1 0 (eStrs [[97], [98]]), .frz 27 3 0 (eTypes [(TType.mk x54_0 x54_1 x54_2), (TType.mk x55_0 x55_1 x55_2)]), .frz 9 1 0 (eStrs [[120], [121]])]) [0] (s_l11Expr 8 (Tl1Cur.mk x62_1_0 x62_1_1 x62_1_2) [[120], [121]] 2 hx72) VY_e)) ?_
                    refine VT_h1 (VY_dh VY_e) ?_
                    refine VT_h1 (VY_ixa 0 (List.getElem?_eq_some_iff.1 hx73).1 VY_e) ?_
                    refine VT_h1 (VY_fla VY_e) ?_
                    refine VT_h1 (VY_stm [(.s x73_0), (.sl 1 (eStrs x73_1))] [] (.st [.i .i64 x73_2_0, .s x73_2_1, .s x73_2_2, .i .i64 x73_2_3, .st [.i .i64 x73_2_4_0, .s x73_2_4_1, .sl 3 (eTypes x73_2_4_2)], .sl 9 (eExprs x73_2_5), .sl 11 (eArms x73_2_6)]) (.st [.i .i64 x72_0_0, .s x72_0_1, .s x72_0_2, .i .i64 x72_0_3, .st [.i .i64 x72_0_4_0, .s x72_0_4_1, .sl 3 (eTypes x72_0_4_2)], .sl 9 (eExprs x72_0_5), .sl 11 (eArms x72_0_6)]) (TMethod.mk x73_0 x73_1 (TExpr.mk x73_2_0 x73_2_1 x73_2_2 x73_2_3 (TType.mk x73_2_4_0 x73_2_4_1 x73_2_4_2) x73_2_5 x73_2_6)) (TMethod.mk x73_0 x73_1 (TExpr.mk x72_0_0 x72_0_1 x72_0_2 x72_0_3 (TType.mk x72_0_4_0 x72_0_4_1 x72_0_4_2) x72_0_5 x72_0_6)) hx73 VY_e) ?_
                    refine VT_nil ?_
                    exact R_pk 1 [0, 1, 2, 3, 4, 5, 6, 7, 8]
                  refine VT_h1 (VY_frz 8 rfl rfl (VY_cG (sv := .d (.st [.i .i64 x72_0_0, .s x72_0_1, .s x72_0_2, .i .i64 x72_0_3, .st [.i .i64 x72_0_4_0, .s x72_0_4_1, .sl 3 (eTypes x72_0_4_2)], .sl 9 (eExprs x72_0_5), .sl 11 (eArms x72_0_6)])) (L' := [.box [.d (.sl 1 (eBytes x72_1_0)), .d (.i .i64 x72_1_1), .d (.i .i64 x72_1_2)], .box [.d (.s []), .nilsl, .d (.i .i64 0), .d (.s []), .nilsl, .nilsl, .d (.b false), .d (.b false), .d (.i .i64 0), .d (.s []), .nilsl, .nilsl], .frz 9 1 0 (eStrs [[115, 104, 111, 119], [101, 113], [97, 100, 100]]), .frz 9 1 0 (eStrs [[120]]), .arr 65 11 0 (eMethods [(TMethod.mk [109] [[120]] (TExpr.mk x3_0 x3_1 x3_2 x3_3 (TType.mk x3_4_0 x3_4_1 x3_4_2) x3_5 x3_6))]), .box [.d (.s x1_0), .sl 6 0, .d (.i .i64 x56_0), .d (.s x56_1), .d (.sl 3 (eTypes x56_2)), .nilsl, .d (.b x61_0), .d (.b b58_3), .d (.i .i64 b58_4), .d (.s b58_5), .d (.sl 3 (eTypes b58_6)), .sl 4 0], .arr 9 1 0 (eStrs [[97], [98]]), .frz 27 3 0 (eTypes [(TType.mk x54_0 x54_1 x54_2), (TType.mk x55_0 x55_1 x55_2)]), .frz 9 1 0 (eStrs [[120], [121]])]) [0] (s_l11Expr 8 (Tl1Cur.mk x62_1_0 x62_1_1 x62_1_2) [[120], [121]] 2 hx72) VY_e)) ?_
                  refine VT_h1 (VY_dh VY_e) ?_
                  refine VT_h1 (VY_dh VY_e) ?_
                  refine VT_h1 (VY_ixa 0 (List.getElem?_eq_some_iff.1 hx73).1 VY_e) ?_
                  refine VT_h1 (VY_fla VY_e) ?_
                  refine VT_h1 (VY_stm [(.s x73_0), (.sl 1 (eStrs x73_1))] [] (.st [.i .i64 x73_2_0, .s x73_2_1, .s x73_2_2, .i .i64 x73_2_3, .st [.i .i64 x73_2_4_0, .s x73_2_4_1, .sl 3 (eTypes x73_2_4_2)], .sl 9 (eExprs x73_2_5), .sl 11 (eArms x73_2_6)]) (.st [.i .i64 x72_0_0, .s x72_0_1, .s x72_0_2, .i .i64 x72_0_3, .st [.i .i64 x72_0_4_0, .s x72_0_4_1, .sl 3 (eTypes x72_0_4_2)], .sl 9 (eExprs x72_0_5), .sl 11 (eArms x72_0_6)]) (TMethod.mk x73_0 x73_1 (TExpr.mk x73_2_0 x73_2_1 x73_2_2 x73_2_3 (TType.mk x73_2_4_0 x73_2_4_1 x73_2_4_2) x73_2_5 x73_2_6)) (TMethod.mk x73_0 x73_1 (TExpr.mk x72_0_0 x72_0_1 x72_0_2 x72_0_3 (TType.mk x72_0_4_0 x72_0_4_1 x72_0_4_2) x72_0_5 x72_0_6)) hx73 VY_e) ?_
                  refine VT_nil ?_
                  exact R_pk 1 [0, 1, 2, 3, 4, 5, 6, 7, 8]
                refine goL ?_
                refine V_freeze 6 rfl rfl ?_
                refine V_freeze 4 rfl rfl ?_
                refine V_ret ?_
                replace h := Option.some.inj h
                subst h
                exact R_rF [.d (.st [.s x1_0, .sl 1 (eStrs [[97], [98]]), .st [.i .i64 x56_0, .s x56_1, .sl 3 (eTypes x56_2)], .sl 4 [], .b x61_0, .b b58_3, .st [.i .i64 b58_4, .s b58_5, .sl 3 (eTypes b58_6)], .sl 11 (eMethods ([(TMethod.mk [109] [[120]] (TExpr.mk x3_0 x3_1 x3_2 x3_3 (TType.mk x3_4_0 x3_4_1 x3_4_2) x3_5 x3_6))].set 0 (TMethod.mk x73_0 x73_1 (TExpr.mk x72_0_0 x72_0_1 x72_0_2 x72_0_3 (TType.mk x72_0_4_0 x72_0_4_1 x72_0_4_2) x72_0_5 x72_0_6))))])] [.box [.d (.sl 1 (eBytes x72_1_0)), .d (.i .i64 x72_1_1), .d (.i .i64 x72_1_2)]] ⟨rfl, rfl⟩
              · as_aux_lemma =>
                replace h := cnd_f c71 h
                refine goL ?_
                refine V_cb (fun c74 => ?_) (fun c74 => ?_)
                · as_aux_lemma =>
                  replace h := cnd_t c74 h
                  refine goL ?_
                  obtain ⟨x75, hx75, h⟩ := bnd_s h
                  obtain ⟨x75_0, x75_1, x75_2⟩ := x75
                  refine VO_r (QR_call (w_l4Int  hx75)) ?_
                  refine goL ?_
                  refine V_freeze 6 rfl rfl ?_
                  refine V_freeze 4 rfl rfl ?_
                  refine V_ret ?_
                  replace h := Option.some.inj h
                  subst h
                  exact R_rF [.d (.st [.s x1_0, .sl 1 (eStrs [[97], [98]]), .st [.i .i64 x56_0, .s x56_1, .sl 3 (eTypes x56_2)], .sl 4 [], .b x61_0, .b b58_3, .st [.i .i64 x75_0, .s x75_1, .sl 3 (eTypes x75_2)], .sl 11 (eMethods [(TMethod.mk [109] [[120]] (TExpr.mk x3_0 x3_1 x3_2 x3_3 (TType.mk x3_4_0 x3_4_1 x3_4_2) x3_5 x3_6))])])] [.box [.d (.sl 1 (eBytes x62_1_0)), .d (.i .i64 x62_1_1), .d (.i .i64 x62_1_2)]] ⟨rfl, rfl⟩
                · as_aux_lemma =>
                  replace h := cnd_f c74 h
                  refine goL ?_
                  refine V_cb (fun c76 => ?_) (fun c76 => ?_)
                  · as_aux_lemma =>
                    replace h := cnd_t c76 h
                    refine goL ?_
                    refine VO_l0 ?_
                    obtain ⟨x77, hx77, h⟩ := bnd_s h
                    obtain ⟨hx770, hx77⟩ := at_s hx77
                    obtain ⟨x77_0, x77_1, ⟨x77_2_0, x77_2_1, x77_2_2, x77_2_3, ⟨x77_2_4_0, x77_2_4_1, x77_2_4_2⟩, x77_2_5, x77_2_6⟩⟩ := x77
                    refine VO_k (Q_ixa 0 (List.getElem?_eq_some_iff.1 hx77).1) ?_
                    refine VO_k (Q_fla) ?_
                    refine VO_freezeO 8 rfl rfl ?_
                    refine VO_stm [(.s x77_0)] [(.st [.i .i64 x77_2_0, .s x77_2_1, .s x77_2_2, .i .i64 x77_2_3, .st [.i .i64 x77_2_4_0, .s x77_2_4_1, .sl 3 (eTypes x77_2_4_2)], .sl 9 (eExprs x77_2_5), .sl 11 (eArms x77_2_6)])] (.sl 1 (eStrs x77_1)) (.sl 1 []) (TMethod.mk x77_0 x77_1 (TExpr.mk x77_2_0 x77_2_1 x77_2_2 x77_2_3 (TType.mk x77_2_4_0 x77_2_4_1 x77_2_4_2) x77_2_5 x77_2_6)) (TMethod.mk x77_0 [] (TExpr.mk x77_2_0 x77_2_1 x77_2_2 x77_2_3 (TType.mk x77_2_4_0 x77_2_4_1 x77_2_4_2) x77_2_5 x77_2_6)) hx77 ?_
                    refine goL ?_
                    refine V_freeze 6 rfl rfl ?_
                    refine V_freeze 4 rfl rfl ?_
                    refine V_ret ?_
                    replace h := Option.some.inj h
                    subst h
                    exact R_rF [.d (.st [.s x1_0, .sl 1 (eStrs [[97], [98]]), .st [.i .i64 x56_0, .s x56_1, .sl 3 (eTypes x56_2)], .sl 4 [], .b x61_0, .b b58_3, .st [.i .i64 b58_4, .s b58_5, .sl 3 (eTypes b58_6)], .sl 11 (eMethods ([(TMethod.mk [109] [[120]] (TExpr.mk x3_0 x3_1 x3_2 x3_3 (TType.mk x3_4_0 x3_4_1 x3_4_2) x3_5 x3_6))].set 0 (TMethod.mk x77_0 [] (TExpr.mk x77_2_0 x77_2_1 x77_2_2 x77_2_3 (TType.mk x77_2_4_0 x77_2_4_1 x77_2_4_2) x77_2_5 x77_2_6))))])] [.box [.d (.sl 1 (eBytes x62_1_0)), .d (.i .i64 x62_1_1), .d (.i .i64 x62_1_2)]] ⟨rfl, rfl⟩
                  · replace h := cnd_f c76 h
                    refine V_skip ?_
                    show V _ _ _ _ _
                    refine goL ?_
                    refine V_freeze 6 rfl rfl ?_
                    refine V_freeze 4 rfl rfl ?_
                    refine V_ret ?_
                    replace h := Option.some.inj h
                    subst h
                    exact R_rF [.d (.st [.s x1_0, .sl 1 (eStrs [[97], [98]]), .st [.i .i64 x56_0, .s x56_1, .sl 3 (eTypes x56_2)], .sl 4 [], .b x61_0, .b b58_3, .st [.i .i64 b58_4, .s b58_5, .sl 3 (eTypes b58_6)], .sl 11 (eMethods [(TMethod.mk [109] [[120]] (TExpr.mk x3_0 x3_1 x3_2 x3_3 (TType.mk x3_4_0 x3_4_1 x3_4_2) x3_5 x3_6))])])] [.box [.d (.sl 1 (eBytes x62_1_0)), .d (.i .i64 x62_1_1), .d (.i .i64 x62_1_2)]] ⟨rfl, rfl⟩
      · as_aux_lemma =>
        replace h := cnd_f c53 h
        refine goL ?_
        refine VO_la1 (u := (.s [97])) ?_
        refine goL ?_
        obtain ⟨x78, hx78, h⟩ := lt_x h
        obtain ⟨x78_0, x78_1, x78_2⟩ := x78
        have sx78 := w_sVar [97]
        rw [hx78] at sx78
        refine VO_r (QR_call (sx78)) ?_
        refine goL ?_
        obtain ⟨x79, hx79, h⟩ := lt_x h
        obtain ⟨x79_0, x79_1, x79_2⟩ := x79
        have sx79 := w_sVar [97]
        rw [hx79] at sx79
        refine VO_r (QR_call (sx79)) ?_
        refine VO_k (Q_build TBd.h TZ.h rfl (by repeat constructor)) ?_
        refine VO_la1 (u := (.st [.s [111, 114, 100], .st [.i .i64 x79_0, .s x79_1, .sl 3 (eTypes x79_2)]])) ?_
        refine goL ?_
        obtain ⟨x80, hx80, h⟩ := bnd_s h
        obtain ⟨x80_0, ⟨x80_1_0, x80_1_1, x80_1_2⟩⟩ := x80
        refine VO_cG [0] (w_l1Once (Tl1Cur.mk x4_1_0 x4_1_1 x4_1_2) 3 hx80) ?_
        rintro _ _ ⟨rfl, rfl⟩
        show VO _ _ _ _ ⟨(_, .d (.b x80_0)) :: _, [.box [.d (.sl 1 (eBytes x80_1_0)), .d (.i .i64 x80_1_1), .d (.i .i64 x80_1_2)], .box [.d (.s []), .nilsl, .d (.i .i64 0), .d (.s []), .nilsl, .nilsl, .d (.b false), .d (.b false), .d (.i .i64 0), .d (.s []), .nilsl, .nilsl], .frz 9 1 0 (eStrs [[115, 104, 111, 119], [101, 113], [97, 100, 100]]), .frz 9 1 0 (eStrs [[120]]), .arr 65 11 0 (eMethods [(TMethod.mk [109] [[120]] (TExpr.mk x3_0 x3_1 x3_2 x3_3 (TType.mk x3_4_0 x3_4_1 x3_4_2) x3_5 x3_6))]), .box [.d (.s x1_0), .sl 6 0, .d (.i .i64 x78_0), .d (.s x78_1), .d (.sl 3 (eTypes x78_2)), .sl 7 0, .d (.b false), .d (.b false), .d (.i .i64 0), .d (.s []), .nilsl, .sl 4 0], .arr 9 1 0 (eStrs [[97]]), .arr 69 4 0 (eBounds [(TBound.mk [111, 114, 100] (TType.mk x79_0 x79_1 x79_2))])], _⟩ _
        refine goL ?_
        refine V_nild 3 5 10 rfl rfl (by repeat constructor) (by repeat constructor) ?_
        obtain ⟨b81, hb81, h⟩ := bnd_s h
        obtain ⟨b81_0, b81_1, b81_2, b81_3, b81_4, b81_5, b81_6⟩ := b81
        refine V_thenJ ⟨[(0, .ptr 0 0), (2, .ptr 1 0), (3, .ptr 5 0)], [.box [.d (.sl 1 (eBytes b81_0)), .d (.i .i64 b81_1), .d (.i .i64 b81_2)], .box [.d (.s []), .nilsl, .d (.i .i64 0), .d (.s []), .nilsl, .nilsl, .d (.b false), .d (.b false), .d (.i .i64 0), .d (.s []), .nilsl, .nilsl], .frz 9 1 0 (eStrs [[115, 104, 111, 119], [101, 113], [97, 100, 100]]), .frz 9 1 0 (eStrs [[120]]), .arr 65 11 0 (eMethods [(TMethod.mk [109] [[120]] (TExpr.mk x3_0 x3_1 x3_2 x3_3 (TType.mk x3_4_0 x3_4_1 x3_4_2) x3_5 x3_6))]), .box [.d (.s x1_0), .sl 6 0, .d (.i .i64 x78_0), .d (.s x78_1), .d (.sl 3 (eTypes x78_2)), .sl 7 0, .d (.b false), .d (.b b81_3), .d (.i .i64 b81_4), .d (.s b81_5), .d (.sl 3 (eTypes b81_6)), .sl 4 0], .arr 9 1 0 (eStrs [[97]]), .arr 69 4 0 (eBounds [(TBound.mk [111, 114, 100] (TType.mk x79_0 x79_1 x79_2))])], Try.f17.ntmps⟩ ?_ ?_
        · as_aux_lemma =>
          refine V_cb (fun c82 => ?_) (fun c82 => ?_)
          · replace hb81 := cnd_t c82 hb81
            refine goL ?_
            obtain ⟨x83, hx83, hb81⟩ := bnd_s hb81
            obtain ⟨⟨x83_0_0, x83_0_1, x83_0_2⟩, ⟨x83_1_0, x83_1_1, x83_1_2⟩⟩ := x83
            refine VO_cG [0, 6] (s_l4TyL 8 (Tl1Cur.mk x80_1_0 x80_1_1 x80_1_2) [[97]] 1 0 hx83) ?_
            rintro _ _ ⟨rfl, rfl⟩
            show VO _ _ _ _ ⟨(_, .d (.st [.i .i64 x83_0_0, .s x83_0_1, .sl 3 (eTypes x83_0_2)])) :: _, [.box [.d (.sl 1 (eBytes x83_1_0)), .d (.i .i64 x83_1_1), .d (.i .i64 x83_1_2)], .box [.d (.s []), .nilsl, .d (.i .i64 0), .d (.s []), .nilsl, .nilsl, .d (.b false), .d (.b false), .d (.i .i64 0), .d (.s []), .nilsl, .nilsl], .frz 9 1 0 (eStrs [[115, 104, 111, 119], [101, 113], [97, 100, 100]]), .frz 9 1 0 (eStrs [[120]]), .arr 65 11 0 (eMethods [(TMethod.mk [109] [[120]] (TExpr.mk x3_0 x3_1 x3_2 x3_3 (TType.mk x3_4_0 x3_4_1 x3_4_2) x3_5 x3_6))]), .box [.d (.s x1_0), .sl 6 0, .d (.i .i64 x78_0), .d (.s x78_1), .d (.sl 3 (eTypes x78_2)), .sl 7 0, .d (.b false), .d (.b true), .d (.i .i64 0), .d (.s []), .d (.sl 3 []), .sl 4 0], .arr 9 1 0 (eStrs [[97]]), .arr 69 4 0 (eBounds [(TBound.mk [111, 114, 100] (TType.mk x79_0 x79_1 x79_2))])], _⟩ _
            refine goL ?_
            cases hb81
            exact ⟨rfl, ⟨⟨rfl, rfl⟩, ⟨rfl, rfl⟩, ⟨rfl, rfl⟩, trivial⟩, ⟨_, rfl⟩, rfl⟩
          · replace hb81 := cnd_f c82 hb81
            refine V_skip ?_
            cases hb81
            exact ⟨rfl, ⟨⟨rfl, rfl⟩, ⟨rfl, rfl⟩, ⟨rfl, rfl⟩, trivial⟩, ⟨_, rfl⟩, rfl⟩
        refine goL ?_
        obtain ⟨x84, hx84, h⟩ := bnd_s h
        obtain ⟨x84_0, ⟨x84_1_0, x84_1_1, x84_1_2⟩⟩ := x84
        refine VO_cG [0] (w_l1Once (Tl1Cur.mk b81_0 b81_1 b81_2) 4 hx84) ?_
        rintro _ _ ⟨rfl, rfl⟩
        show VO _ _ _ _ ⟨(_, .d (.b x84_0)) :: _, [.box [.d (.sl 1 (eBytes x84_1_0)), .d (.i .i64 x84_1_1), .d (.i .i64 x84_1_2)], .box [.d (.s []), .nilsl, .d (.i .i64 0), .d (.s []), .nilsl, .nilsl, .d (.b false), .d (.b false), .d (.i .i64 0), .d (.s []), .nilsl, .nilsl], .frz 9 1 0 (eStrs [[115, 104, 111, 119], [101, 113], [97, 100, 100]]), .frz 9 1 0 (eStrs [[120]]), .arr 65 11 0 (eMethods [(TMethod.mk [109] [[120]] (TExpr.mk x3_0 x3_1 x3_2 x3_3 (TType.mk x3_4_0 x3_4_1 x3_4_2) x3_5 x3_6))]), .box [.d (.s x1_0), .sl 6 0, .d (.i .i64 x78_0), .d (.s x78_1), .d (.sl 3 (eTypes x78_2)), .sl 7 0, .d (.b false), .d (.b b81_3), .d (.i .i64 b81_4), .d (.s b81_5), .d (.sl 3 (eTypes b81_6)), .sl 4 0], .arr 9 1 0 (eStrs [[97]]), .arr 69 4 0 (eBounds [(TBound.mk [111, 114, 100] (TType.mk x79_0 x79_1 x79_2))])], _⟩ _
        refine goL ?_
        obtain ⟨x85, hx85, h⟩ := bnd_s h
        obtain ⟨x85_0, ⟨x85_1_0, x85_1_1, x85_1_2⟩⟩ := x85
        refine VO_cG [0] (w_l1Below (Tl1Cur.mk x84_1_0 x84_1_1 x84_1_2) 12 hx85) ?_
        rintro _ _ ⟨rfl, rfl⟩
        show VO _ _ _ _ ⟨(_, .d (.i .i64 x85_0)) :: _, [.box [.d (.sl 1 (eBytes x85_1_0)), .d (.i .i64 x85_1_1), .d (.i .i64 x85_1_2)], .box [.d (.s []), .nilsl, .d (.i .i64 0), .d (.s []), .nilsl, .nilsl, .d (.b false), .d (.b false), .d (.i .i64 0), .d (.s []), .nilsl, .nilsl], .frz 9 1 0 (eStrs [[115, 104, 111, 119], [101, 113], [97, 100, 100]]), .frz 9 1 0 (eStrs [[120]]), .arr 65 11 0 (eMethods [(TMethod.mk [109] [[120]] (TExpr.mk x3_0 x3_1 x3_2 x3_3 (TType.mk x3_4_0 x3_4_1 x3_4_2) x3_5 x3_6))]), .box [.d (.s x1_0), .sl 6 0, .d (.i .i64 x78_0), .d (.s x78_1), .d (.sl 3 (eTypes x78_2)), .sl 7 0, .d (.b x84_0), .d (.b b81_3), .d (.i .i64 b81_4), .d (.s b81_5), .d (.sl 3 (eTypes b81_6)), .sl 4 0], .arr 9 1 0 (eStrs [[97]]), .arr 69 4 0 (eBounds [(TBound.mk [111, 114, 100] (TType.mk x79_0 x79_1 x79_2))])], _⟩ _
        refine goL ?_
        refine V_block ?_
        refine goL ?_
        refine V_cb (fun c86 => ?_) (fun c86 => ?_)
        · as_aux_lemma =>
          replace h := cnd_t c86 h
          refine goL ?_
          obtain ⟨x87, hx87, h⟩ := bnd_s h
          obtain ⟨⟨x87_0_0, x87_0_1, x87_0_2⟩, ⟨x87_1_0, x87_1_1, x87_1_2⟩⟩ := x87
          refine VO_cG [0] (w_l4Free (Tl1Cur.mk x85_1_0 x85_1_1 x85_1_2) 2 hx87) ?_
          rintro _ _ ⟨rfl, rfl⟩
          show VO _ _ _ _ ⟨(_, .d (.st [.i .i64 x87_0_0, .s x87_0_1, .sl 3 (eTypes x87_0_2)])) :: _, [.box [.d (.sl 1 (eBytes x87_1_0)), .d (.i .i64 x87_1_1), .d (.i .i64 x87_1_2)], .box [.d (.s []), .nilsl, .d (.i .i64 0), .d (.s []), .nilsl, .nilsl, .d (.b false), .d (.b false), .d (.i .i64 0), .d (.s []), .nilsl, .nilsl], .frz 9 1 0 (eStrs [[115, 104, 111, 119], [101, 113], [97, 100, 100]]), .frz 9 1 0 (eStrs [[120]]), .arr 65 11 0 (eMethods [(TMethod.mk [109] [[120]] (TExpr.mk x3_0 x3_1 x3_2 x3_3 (TType.mk x3_4_0 x3_4_1 x3_4_2) x3_5 x3_6))]), .box [.d (.s x1_0), .sl 6 0, .d (.i .i64 x78_0), .d (.s x78_1), .d (.sl 3 (eTypes x78_2)), .sl 7 0, .d (.b x84_0), .d (.b b81_3), .d (.i .i64 b81_4), .d (.s b81_5), .d (.sl 3 (eTypes b81_6)), .sl 4 0], .arr 9 1 0 (eStrs [[97]]), .arr 69 4 0 (eBounds [(TBound.mk [111, 114, 100] (TType.mk x79_0 x79_1 x79_2))])], _⟩ _
          refine goL ?_
          refine V_freeze 6 rfl rfl ?_
          refine V_freeze 7 rfl rfl ?_
          refine V_freeze 4 rfl rfl ?_
          refine V_ret ?_
          replace h := Option.some.inj h
          subst h
          exact R_rF [.d (.st [.s x1_0, .sl 1 (eStrs [[97]]), .st [.i .i64 x87_0_0, .s x87_0_1, .sl 3 (eTypes x87_0_2)], .sl 4 (eBounds [(TBound.mk [111, 114, 100] (TType.mk x79_0 x79_1 x79_2))]), .b x84_0, .b b81_3, .st [.i .i64 b81_4, .s b81_5, .sl 3 (eTypes b81_6)], .sl 11 (eMethods [(TMethod.mk [109] [[120]] (TExpr.mk x3_0 x3_1 x3_2 x3_3 (TType.mk x3_4_0 x3_4_1 x3_4_2) x3_5 x3_6))])])] [.box [.d (.sl 1 (eBytes x87_1_0)), .d (.i .i64 x87_1_1), .d (.i .i64 x87_1_2)]] ⟨rfl, rfl⟩
        · as_aux_lemma =>
          replace h := cnd_f c86 h
          refine goL ?_
          refine V_cb (fun c88 => ?_) (fun c88 => ?_)
          · as_aux_lemma =>
            replace h := cnd_t c88 h
            obtain ⟨x89, hx89, h⟩ := bnd_s h
            obtain ⟨x89_0, ⟨x89_1_0, x89_1_1, x89_1_2⟩⟩ := x89
            obtain ⟨g90, h⟩ := gd_s h
            refine V_drawTJ (P := Try.prog) Mix.h (.q 2 (.h 0 (.h 1 (.h 3 (.h 4 (.h 5 (.h 6 (.q 7 (.h 8 .nil .nil)) .nil) .nil) .nil) .nil) (.h 3 (.h 1 (.h 4 (.h 5 (.h 6 (.q 7 (.h 8 .nil .nil)) .nil) .nil) .nil) (.h 4 (.h 1 (.h 5 (.h 6 (.q 7 (.h 8 .nil .nil)) .nil) .nil) (.h 5 (.h 1 (.h 6 (.q 7 (.h 8 .nil .nil)) .nil) .nil) .nil)) .nil)) .nil)) (.h 3 (.h 0 (.h 1 (.h 4 (.h 5 (.h 6 (.q 7 (.h 8 .nil .nil)) .nil) .nil) .nil) (.h 4 (.h 1 (.h 5 (.h 6 (.q 7 (.h 8 .nil .nil)) .nil) .nil) (.h 5 (.h 1 (.h 6 (.q 7 (.h 8 .nil .nil)) .nil) .nil) .nil)) .nil)) (.h 4 (.h 0 (.h 1 (.h 5 (.h 6 (.q 7 (.h 8 .nil .nil)) .nil) .nil) (.h 5 (.h 1 (.h 6 (.q 7 (.h 8 .nil .nil)) .nil) .nil) .nil)) (.h 5 (.h 0 (.h 1 (.h 6 (.q 7 (.h 8 .nil .nil)) .nil) .nil) .nil) .nil)) .nil)) .nil))) ⟨[(2, .ptr 1 0), (3, .ptr 5 0)], [.box [.d (.sl 1 (eBytes x89_1_0)), .d (.i .i64 x89_1_1), .d (.i .i64 x89_1_2)], .box [.d (.s []), .nilsl, .d (.i .i64 0), .d (.s []), .nilsl, .nilsl, .d (.b false), .d (.b false), .d (.i .i64 0), .d (.s []), .nilsl, .nilsl], .frz 9 1 0 (eStrs [[115, 104, 111, 119], [101, 113], [97, 100, 100]]), .frz 9 1 0 (eStrs [[120]]), .arr 65 11 0 (eMethods [(TMethod.mk [109] [[120]] (TExpr.mk x3_0 x3_1 x3_2 x3_3 (TType.mk x3_4_0 x3_4_1 x3_4_2) x3_5 x3_6))]), .box [.d (.s x1_0), .sl 6 (0 + 1), .d (.i .i64 x78_0), .d (.s x78_1), .d (.sl 3 (eTypes x78_2)), .sl 7 0, .d (.b x84_0), .d (.b b81_3), .d (.i .i64 b81_4), .d (.s b81_5), .d (.sl 3 (eTypes b81_6)), .sl 4 0], .arr 9 1 (0 + 1) (eStrs ([[97]] ++ [x89_0])), .arr 69 4 0 (eBounds [(TBound.mk [111, 114, 100] (TType.mk x79_0 x79_1 x79_2))]), .frz 9 1 0 (eStrs [[97], [99]]), .arr 9 1 0 (eStrs [x89_0])], Try.f17.ntmps⟩ (by kernel_rfl) ?_ ?_
            · as_aux_lemma =>
              refine goT ?_
              refine VT_h (VY_dh VY_e) ?_ ?_
              · as_aux_lemma =>
                refine VT_h (VY_dh VY_e) ?_ ?_
                · refine VT_h1 (VY_lb (T := 24) (us := eStrs [[97], [99]]) VY_e) ?_
                  refine VT_h1 (VY_frz 8 rfl rfl (VY_cG (sv := .d (.s x89_0)) (L' := [.box [.d (.sl 1 (eBytes x89_1_0)), .d (.i .i64 x89_1_1), .d (.i .i64 x89_1_2)], .box [.d (.s []), .nilsl, .d (.i .i64 0), .d (.s []), .nilsl, .nilsl, .d (.b false), .d (.b false), .d (.i .i64 0), .d (.s []), .nilsl, .nilsl], .frz 9 1 0 (eStrs [[115, 104, 111, 119], [101, 113], [97, 100, 100]]), .frz 9 1 0 (eStrs [[120]]), .arr 65 11 0 (eMethods [(TMethod.mk [109] [[120]] (TExpr.mk x3_0 x3_1 x3_2 x3_3 (TType.mk x3_4_0 x3_4_1 x3_4_2) x3_5 x3_6))]), .box [.d (.s x1_0), .sl 6 0, .d (.i .i64 x78_0), .d (.s x78_1), .d (.sl 3 (eTypes x78_2)), .sl 7 0, .d (.b x84_0), .d (.b b81_3), .d (.i .i64 b81_4), .d (.s b81_5), .d (.sl 3 (eTypes b81_6)), .sl 4 0], .arr 9 1 0 (eStrs [[97]]), .arr 69 4 0 (eBounds [(TBound.mk [111, 114, 100] (TType.mk x79_0 x79_1 x79_2))]), .frz 9 1 0 (eStrs [[97], [99]])]) [0] (w_l1Pick (Tl1Cur.mk x85_1_0 x85_1_1 x85_1_2) [[97], [99]] hx89) VY_e)) ?_
                  refine VT_h1 (VY_lb (T := 24) (us := eStrs [x89_0]) VY_e) ?_
                  refine VT_h1 (VY_apa (T := 24) g90 VY_e) ?_
                  refine goT ?_
                  refine VT_nil ?_
                  exact R_pk 1 [0, 1, 2, 3, 4, 5, 6, 7, 8, 9]
                refine VT_h1 (VY_lb (T := 24) (us := eStrs [[97], [99]]) VY_e) ?_
                refine VT_h (VY_dh VY_e) ?_ ?_
                · refine VT_h1 (VY_frz 8 rfl rfl (VY_cG (sv := .d (.s x89_0)) (L' := [.box [.d (.sl 1 (eBytes x89_1_0)), .d (.i .i64 x89_1_1), .d (.i .i64 x89_1_2)], .box [.d (.s []), .nilsl, .d (.i .i64 0), .d (.s []), .nilsl, .nilsl, .d (.b false), .d (.b false), .d (.i .i64 0), .d (.s []), .nilsl, .nilsl], .frz 9 1 0 (eStrs [[115, 104, 111, 119], [101, 113], [97, 100, 100]]), .frz 9 1 0 (eStrs [[120]]), .arr 65 11 0 (eMethods [(TMethod.mk [109] [[120]] (TExpr.mk x3_0 x3_1 x3_2 x3_3 (TType.mk x3_4_0 x3_4_1 x3_4_2) x3_5 x3_6))]), .box [.d (.s x1_0), .sl 6 0, .d (.i .i64 x78_0), .d (.s x78_1), .d (.sl 3 (eTypes x78_2)), .sl 7 0, .d (.b x84_0), .d (.b b81_3), .d (.i .i64 b81_4), .d (.s b81_5), .d (.sl 3 (eTypes b81_6)), .sl 4 0], .arr 9 1 0 (eStrs [[97]]), .arr 69 4 0 (eBounds [(TBound.mk [111, 114, 100] (TType.mk x79_0 x79_1 x79_2))]), .frz 9 1 0 (eStrs [[97], [99]])]) [0] (w_l1Pick (Tl1Cur.mk x85_1_0 x85_1_1 x85_1_2) [[97], [99]] hx89) VY_e)) ?_
                  refine VT_h1 (VY_lb (T := 24) (us := eStrs [x89_0]) VY_e) ?_
                  refine VT_h1 (VY_apa (T := 24) g90 VY_e) ?_
                  refine goT ?_
                  refine VT_nil ?_
                  exact R_pk 1 [0, 1, 2, 3, 4, 5, 6, 7, 8, 9]
                refine VT_h1 (VY_frz 8 rfl rfl (VY_cG (sv := .d (.s x89_0)) (L' := [.box [.d (.sl 1 (eBytes x89_1_0)), .d (.i .i64 x89_1_1), .d (.i .i64 x89_1_2)], .box [.d (.s []), .nilsl, .d (.i .i64 0), .d (.s []), .nilsl, .nilsl, .d (.b false), .d (.b false), .d (.i .i64 0), .d (.s []), .nilsl, .nilsl], .frz 9 1 0 (eStrs [[115, 104, 111, 119], [101, 113], [97, 100, 100]]), .frz 9 1 0 (eStrs [[120]]), .arr 65 11 0 (eMethods [(TMethod.mk [109] [[120]] (TExpr.mk x3_0 x3_1 x3_2 x3_3 (TType.mk x3_4_0 x3_4_1 x3_4_2) x3_5 x3_6))]), .box [.d (.s x1_0), .sl 6 0, .d (.i .i64 x78_0), .d (.s x78_1), .d (.sl 3 (eTypes x78_2)), .sl 7 0, .d (.b x84_0), .d (.b b81_3), .d (.i .i64 b81_4), .d (.s b81_5), .d (.sl 3 (eTypes b81_6)), .sl 4 0], .arr 9 1 0 (eStrs [[97]]), .arr 69 4 0 (eBounds [(TBound.mk [111, 114, 100] (TType.mk x79_0 x79_1 x79_2))]), .frz 9 1 0 (eStrs [[97], [99]])]) [0] (w_l1Pick (Tl1Cur.mk x85_1_0 x85_1_1 x85_1_2) [[97], [99]] hx89) VY_e)) ?_
                refine VT_h (VY_dh VY_e) ?_ ?_
                · refine VT_h1 (VY_lb (T := 24) (us := eStrs [x89_0]) VY_e) ?_
                  refine VT_h1 (VY_apa (T := 24) g90 VY_e) ?_
                  refine goT ?_
                  refine VT_nil ?_
                  exact R_pk 1 [0, 1, 2, 3, 4, 5, 6, 7, 8, 9]
                refine VT_h1 (VY_lb (T := 24) (us := eStrs [x89_0]) VY_e) ?_
                refine VT_h1 (VY_dh VY_e) ?_
                refine VT_h1 (VY_apa (T := 24) g90 VY_e) ?_
                refine goT ?_
                refine VT_nil ?_
                exact R_pk 1 [0, 1, 2, 3, 4, 5, 6, 7, 8, 9]
              refine VT_h1 (VY_lb (T := 24) (us := eStrs [[97], [99]]) VY_e) ?_
              refine VT_h (VY_dh VY_e) ?_ ?_
              · as_aux_lemma =>
                refine VT_h (VY_dh VY_e) ?_ ?_
                · refine VT_h1 (VY_frz 8 rfl rfl (VY_cG (sv := .d (.s x89_0)) (L' := [.box [.d (.sl 1 (eBytes x89_1_0)), .d (.i .i64 x89_1_1), .d (.i .i64 x89_1_2)], .box [.d (.s []), .nilsl, .d (.i .i64 0), .d (.s []), .nilsl, .nilsl, .d (.b false), .d (.b false), .d (.i .i64 0), .d (.s []), .nilsl, .nilsl], .frz 9 1 0 (eStrs [[115, 104, 111, 119], [101, 113], [97, 100, 100]]), .frz 9 1 0 (eStrs [[120]]), .arr 65 11 0 (eMethods [(TMethod.mk [109] [[120]] (TExpr.mk x3_0 x3_1 x3_2 x3_3 (TType.mk x3_4_0 x3_4_1 x3_4_2) x3_5 x3_6))]), .box [.d (.s x1_0), .sl 6 0, .d (.i .i64 x78_0), .d (.s x78_1), .d (.sl 3 (eTypes x78_2)), .sl 7 0, .d (.b x84_0), .d (.b b81_3), .d (.i .i64 b81_4), .d (.s b81_5), .d (.sl 3 (eTypes b81_6)), .sl 4 0], .arr 9 1 0 (eStrs [[97]]), .arr 69 4 0 (eBounds [(TBound.mk [111, 114, 100] (TType.mk x79_0 x79_1 x79_2))]), .frz 9 1 0 (eStrs [[97], [99]])]) [0] (w_l1Pick (Tl1Cur.mk x85_1_0 x85_1_1 x85_1_2) [[97], [99]] hx89) VY_e)) ?_
                  refine VT_h1 (VY_lb (T := 24) (us := eStrs [x89_0]) VY_e) ?_
                  refine VT_h1 (VY_apa (T := 24) g90 VY_e) ?_
                  refine goT ?_
                  refine VT_nil ?_
                  exact R_pk 1 [0, 1, 2, 3, 4, 5, 6, 7, 8, 9]
                refine VT_h1 (VY_frz 8 rfl rfl (VY_cG (sv := .d (.s x89_0)) (L' := [.box [.d (.sl 1 (eBytes x89_1_0)), .d (.i .i64 x89_1_1), .d (.i .i64 x89_1_2)], .box [.d (.s []), .nilsl, .d (.i .i64 0), .d (.s []), .nilsl, .nilsl, .d (.b false), .d (.b false), .d (.i .i64 0), .d (.s []), .nilsl, .nilsl], .frz 9 1 0 (eStrs [[115, 104, 111, 119], [101, 113], [97, 100, 100]]), .frz 9 1 0 (eStrs [[120]]), .arr 65 11 0 (eMethods [(TMethod.mk [109] [[120]] (TExpr.mk x3_0 x3_1 x3_2 x3_3 (TType.mk x3_4_0 x3_4_1 x3_4_2) x3_5 x3_6))]), .box [.d (.s x1_0), .sl 6 0, .d (.i .i64 x78_0), .d (.s x78_1), .d (.sl 3 (eTypes x78_2)), .sl 7 0, .d (.b x84_0), .d (.b b81_3), .d (.i .i64 b81_4), .d (.s b81_5), .d (.sl 3 (eTypes b81_6)), .sl 4 0], .arr 9 1 0 (eStrs [[97]]), .arr 69 4 0 (eBounds [(TBound.mk [111, 114, 100] (TType.mk x79_0 x79_1 x79_2))]), .frz 9 1 0 (eStrs [[97], [99]])]) [0] (w_l1Pick (Tl1Cur.mk x85_1_0 x85_1_1 x85_1_2) [[97], [99]] hx89) VY_e)) ?_
                refine VT_h (VY_dh VY_e) ?_ ?_
                · refine VT_h1 (VY_lb (T := 24) (us := eStrs [x89_0]) VY_e) ?_
                  refine VT_h1 (VY_apa (T := 24) g90 VY_e) ?_
                  refine goT ?_
                  refine VT_nil ?_
                  exact R_pk 1 [0, 1, 2, 3, 4, 5, 6, 7, 8, 9]
                refine VT_h1 (VY_lb (T := 24) (us := eStrs [x89_0]) VY_e) ?_
                refine VT_h1 (VY_dh VY_e) ?_
                refine VT_h1 (VY_apa (T := 24) g90 VY_e) ?_
                refine goT ?_
                refine VT_nil ?_
                exact R_pk 1 [0, 1, 2, 3, 4, 5, 6, 7, 8, 9]
              refine VT_h1 (VY_frz 8 rfl rfl (VY_cG (sv := .d (.s x89_0)) (L' := [.box [.d (.sl 1 (eBytes x89_1_0)), .d (.i .i64 x89_1_1), .d (.i .i64 x89_1_2)], .box [.d (.s []), .nilsl, .d (.i .i64 0), .d (.s []), .nilsl, .nilsl, .d (.b false), .d (.b false), .d (.i .i64 0), .d (.s []), .nilsl, .nilsl], .frz 9 1 0 (eStrs [[115, 104, 111, 119], [101, 113], [97, 100, 100]]), .frz 9 1 0 (eStrs [[120]]), .arr 65 11 0 (eMethods [(TMethod.mk [109] [[120]] (TExpr.mk x3_0 x3_1 x3_2 x3_3 (TType.mk x3_4_0 x3_4_1 x3_4_2) x3_5 x3_6))]), .box [.d (.s x1_0), .sl 6 0, .d (.i .i64 x78_0), .d (.s x78_1), .d (.sl 3 (eTypes x78_2)), .sl 7 0, .d (.b x84_0), .d (.b b81_3), .d (.i .i64 b81_4), .d (.s b81_5), .d (.sl 3 (eTypes b81_6)), .sl 4 0], .arr 9 1 0 (eStrs [[97]]), .arr 69 4 0 (eBounds [(TBound.mk [111, 114, 100] (TType.mk x79_0 x79_1 x79_2))]), .frz 9 1 0 (eStrs [[97], [99]])]) [0] (w_l1Pick (Tl1Cur.mk x85_1_0 x85_1_1 x85_1_2) [[97], [99]] hx89) VY_e)) ?_
              refine VT_h (VY_dh VY_e) ?_ ?_
              · as_aux_lemma =>
                refine VT_h (VY_dh VY_e) ?_ ?_
                · refine VT_h1 (VY_lb (T := 24) (us := eStrs [x89_0]) VY_e) ?_
                  refine VT_h1 (VY_apa (T := 24) g90 VY_e) ?_
                  refine goT ?_
                  refine VT_nil ?_
                  exact R_pk 1 [0, 1, 2, 3, 4, 5, 6, 7, 8, 9]
                refine VT_h1 (VY_lb (T := 24) (us := eStrs [x89_0]) VY_e) ?_
                refine VT_h1 (VY_dh VY_e) ?_
                refine VT_h1 (VY_apa (T := 24) g90 VY_e) ?_
                refine goT ?_
                refine VT_nil ?_
                exact R_pk 1 [0, 1, 2, 3, 4, 5, 6, 7, 8, 9]
              refine VT_h1 (VY_lb (T := 24) (us := eStrs [x89_0]) VY_e) ?_
              refine VT_h1 (VY_dh VY_e) ?_
              refine VT_h1 (VY_dh VY_e) ?_
              refine VT_h1 (VY_apa (T := 24) g90 VY_e) ?_
              refine goT ?_
              refine VT_nil ?_
              exact R_pk 1 [0, 1, 2, 3, 4, 5, 6, 7, 8, 9]
            refine goL ?_
            refine V_freeze 6 rfl rfl ?_
            refine V_freeze 7 rfl rfl ?_
            refine V_freeze 4 rfl rfl ?_
            refine V_ret ?_
            replace h := Option.some.inj h
            subst h
            exact R_rF [.d (.st [.s x1_0, .sl 1 (eStrs ([[97]] ++ [x89_0])), .st [.i .i64 x78_0, .s x78_1, .sl 3 (eTypes x78_2)], .sl 4 (eBounds [(TBound.mk [111, 114, 100] (TType.mk x79_0 x79_1 x79_2))]), .b x84_0, .b b81_3, .st [.i .i64 b81_4, .s b81_5, .sl 3 (eTypes b81_6)], .sl 11 (eMethods [(TMethod.mk [109] [[120]] (TExpr.mk x3_0 x3_1 x3_2 x3_3 (TType.mk x3_4_0 x3_4_1 x3_4_2) x3_5 x3_6))])])] [.box [.d (.sl 1 (eBytes x89_1_0)), .d (.i .i64 x89_1_1), .d (.i .i64 x89_1_2)]] ⟨rfl, rfl⟩
          · as_aux_lemma =>
            replace h := cnd_f c88 h
            refine goL ?_
            refine V_cb (fun c91 => ?_) (fun c91 => ?_)
            · as_aux_lemma =>
              replace h := cnd_t c91 h
              obtain ⟨x92, hx92, h⟩ := bnd_s h
              obtain ⟨⟨x92_0_0, x92_0_1, x92_0_2⟩, ⟨x92_1_0, x92_1_1, x92_1_2⟩⟩ := x92
              obtain ⟨g93, h⟩ := gd_s h
              refine V_drawTJ (P := Try.prog) Mix.h (.q 2 (.h 0 (.h 1 (.h 3 (.q 4 (.h 5 (.h 6 (.q 7 (.h 8 .nil .nil)) .nil) .nil)) .nil) (.h 3 (.q 4 (.h 1 (.h 5 (.h 6 (.q 7 (.h 8 .nil .nil)) .nil) .nil) (.h 5 (.h 1 (.h 6 (.q 7 (.h 8 .nil .nil)) .nil) .nil) .nil))) .nil)) (.h 3 (.q 4 (.h 0 (.h 1 (.h 5 (.h 6 (.q 7 (.h 8 .nil .nil)) .nil) .nil) (.h 5 (.h 1 (.h 6 (.q 7 (.h 8 .nil .nil)) .nil) .nil) .nil)) (.h 5 (.h 0 (.h 1 (.h 6 (.q 7 (.h 8 .nil .nil)) .nil) .nil) .nil) .nil))) .nil))) ⟨[(2, .ptr 1 0), (3, .ptr 5 0)], [.box [.d (.sl 1 (eBytes x92_1_0)), .d (.i .i64 x92_1_1), .d (.i .i64 x92_1_2)], .box [.d (.s []), .nilsl, .d (.i .i64 0), .d (.s []), .nilsl, .nilsl, .d (.b false), .d (.b false), .d (.i .i64 0), .d (.s []), .nilsl, .nilsl], .frz 9 1 0 (eStrs [[115, 104, 111, 119], [101, 113], [97, 100, 100]]), .frz 9 1 0 (eStrs [[120]]), .arr 65 11 0 (eMethods [(TMethod.mk [109] [[120]] (TExpr.mk x3_0 x3_1 x3_2 x3_3 (TType.mk x3_4_0 x3_4_1 x3_4_2) x3_5 x3_6))]), .box [.d (.s x1_0), .sl 6 0, .d (.i .i64 x78_0), .d (.s x78_1), .d (.sl 3 (eTypes x78_2)), .sl 7 (0 + 1), .d (.b x84_0), .d (.b b81_3), .d (.i .i64 b81_4), .d (.s b81_5), .d (.sl 3 (eTypes b81_6)), .sl 4 0], .arr 9 1 0 (eStrs [[97]]), .arr 69 4 (0 + 1) (eBounds ([(TBound.mk [111, 114, 100] (TType.mk x79_0 x79_1 x79_2))] ++ [(TBound.mk [101, 113] (TType.mk x92_0_0 x92_0_1 x92_0_2))])), .arr 69 4 0 (eBounds [(TBound.mk [101, 113] (TType.mk x92_0_0 x92_0_1 x92_0_2))])], Try.f17.ntmps⟩ (by kernel_rfl) ?_ ?_
              · as_aux_lemma =>
                refine goT ?_
                refine VT_h (VY_dh VY_e) ?_ ?_
                · as_aux_lemma =>
                  refine VT_h (VY_dh VY_e) ?_ ?_
                  · refine VT_h1 (VY_cG (sv := .d (.st [.i .i64 x92_0_0, .s x92_0_1, .sl 3 (eTypes x92_0_2)])) (L' := [.box [.d (.sl 1 (eBytes x92_1_0)), .d (.i .i64 x92_1_1), .d (.i .i64 x92_1_2)], .box [.d (.s []), .nilsl, .d (.i .i64 0), .d (.s []), .nilsl, .nilsl, .d (.b false), .d (.b false), .d (.i .i64 0), .d (.s []), .nilsl, .nilsl], .frz 9 1 0 (eStrs [[115, 104, 111, 119], [101, 113], [97, 100, 100]]), .frz 9 1 0 (eStrs [[120]]), .arr 65 11 0 (eMethods [(TMethod.mk [109] [[120]] (TExpr.mk x3_0 x3_1 x3_2 x3_3 (TType.mk x3_4_0 x3_4_1 x3_4_2) x3_5 x3_6))]), .box [.d (.s x1_0), .sl 6 0, .d (.i .i64 x78_0), .d (.s x78_1), .d (.sl 3 (eTypes x78_2)), .sl 7 0, .d (.b x84_0), .d (.b b81_3), .d (.i .i64 b81_4), .d (.s b81_5), .d (.sl 3 (eTypes b81_6)), .sl 4 0], .arr 9 1 0 (eStrs [[97]]), .arr 69 4 0 (eBounds [(TBound.mk [111, 114, 100] (TType.mk x79_0 x79_1 x79_2))])]) [0] (w_l4Free (Tl1Cur.mk x85_1_0 x85_1_1 x85_1_2) 1 hx92) VY_e) ?_
                    refine goT ?_
                    refine VT_h1 (VY_lb (T := 28) (us := eBounds [(TBound.mk [101, 113] (TType.mk x92_0_0 x92_0_1 x92_0_2))]) VY_e) ?_
                    refine VT_h1 (VY_apa (T := 28) g93 VY_e) ?_
                    refine goT ?_
                    refine VT_nil ?_
                    exact R_pk 1 [0, 1, 2, 3, 4, 5, 6, 7, 8]
                  refine VT_h1 (VY_cG (sv := .d (.st [.i .i64 x92_0_0, .s x92_0_1, .sl 3 (eTypes x92_0_2)])) (L' := [.box [.d (.sl 1 (eBytes x92_1_0)), .d (.i .i64 x92_1_1), .d (.i .i64 x92_1_2)], .box [.d (.s []), .nilsl, .d (.i .i64 0), .d (.s []), .nilsl, .nilsl, .d (.b false), .d (.b false), .d (.i .i64 0), .d (.s []), .nilsl, .nilsl], .frz 9 1 0 (eStrs [[115, 104, 111, 119], [101, 113], [97, 100, 100]]), .frz 9 1 0 (eStrs [[120]]), .arr 65 11 0 (eMethods [(TMethod.mk [109] [[120]] (TExpr.mk x3_0 x3_1 x3_2 x3_3 (TType.mk x3_4_0 x3_4_1 x3_4_2) x3_5 x3_6))]), .box [.d (.s x1_0), .sl 6 0, .d (.i .i64 x78_0), .d (.s x78_1), .d (.sl 3 (eTypes x78_2)), .sl 7 0, .d (.b x84_0), .d (.b b81_3), .d (.i .i64 b81_4), .d (.s b81_5), .d (.sl 3 (eTypes b81_6)), .sl 4 0], .arr 9 1 0 (eStrs [[97]]), .arr 69 4 0 (eBounds [(TBound.mk [111, 114, 100] (TType.mk x79_0 x79_1 x79_2))])]) [0] (w_l4Free (Tl1Cur.mk x85_1_0 x85_1_1 x85_1_2) 1 hx92) VY_e) ?_
                  refine goT ?_
                  refine VT_h (VY_dh VY_e) ?_ ?_
                  · refine VT_h1 (VY_lb (T := 28) (us := eBounds [(TBound.mk [101, 113] (TType.mk x92_0_0 x92_0_1 x92_0_2))]) VY_e) ?_
                    refine VT_h1 (VY_apa (T := 28) g93 VY_e) ?_
                    refine goT ?_
                    refine VT_nil ?_
                    exact R_pk 1 [0, 1, 2, 3, 4, 5, 6, 7, 8]
                  refine VT_h1 (VY_lb (T := 28) (us := eBounds [(TBound.mk [101, 113] (TType.mk x92_0_0 x92_0_1 x92_0_2))]) VY_e) ?_
                  refine VT_h1 (VY_dh VY_e) ?_
                  refine VT_h1 (VY_apa (T := 28) g93 VY_e) ?_
                  refine goT ?_
                  refine VT_nil ?_
                  exact R_pk 1 [0, 1, 2, 3, 4, 5, 6, 7, 8]
                refine VT_h1 (VY_cG (sv := .d (.st [.i .i64 x92_0_0, .s x92_0_1, .sl 3 (eTypes x92_0_2)])) (L' := [.box [.d (.sl 1 (eBytes x92_1_0)), .d (.i .i64 x92_1_1), .d (.i .i64 x92_1_2)], .box [.d (.s []), .nilsl, .d (.i .i64 0), .d (.s []), .nilsl, .nilsl, .d (.b false), .d (.b false), .d (.i .i64 0), .d (.s []), .nilsl, .nilsl], .frz 9 1 0 (eStrs [[115, 104, 111, 119], [101, 113], [97, 100, 100]]), .frz 9 1 0 (eStrs [[120]]), .arr 65 11 0 (eMethods [(TMethod.mk [109] [[120]] (TExpr.mk x3_0 x3_1 x3_2 x3_3 (TType.mk x3_4_0 x3_4_1 x3_4_2) x3_5 x3_6))]), .box [.d (.s x1_0), .sl 6 0, .d (.i .i64 x78_0), .d (.s x78_1), .d (.sl 3 (eTypes x78_2)), .sl 7 0, .d (.b x84_0), .d (.b b81_3), .d (.i .i64 b81_4), .d (.s b81_5), .d (.sl 3 (eTypes b81_6)), .sl 4 0], .arr 9 1 0 (eStrs [[97]]), .arr 69 4 0 (eBounds [(TBound.mk [111, 114, 100] (TType.mk x79_0 x79_1 x79_2))])]) [0] (w_l4Free (Tl1Cur.mk x85_1_0 x85_1_1 x85_1_2) 1 hx92) VY_e) ?_
                refine goT ?_
                refine VT_h (VY_dh VY_e) ?_ ?_
                · as_aux_lemma =>
                  refine VT_h (VY_dh VY_e) ?_ ?_
                  · refine VT_h1 (VY_lb (T := 28) (us := eBounds [(TBound.mk [101, 113] (TType.mk x92_0_0 x92_0_1 x92_0_2))]) VY_e) ?_
                    refine VT_h1 (VY_apa (T := 28) g93 VY_e) ?_
                    refine goT ?_
                    refine VT_nil ?_
                    exact R_pk 1 [0, 1, 2, 3, 4, 5, 6, 7, 8]
                  refine VT_h1 (VY_lb (T := 28) (us := eBounds [(TBound.mk [101, 113] (TType.mk x92_0_0 x92_0_1 x92_0_2))]) VY_e) ?_
                  refine VT_h1 (VY_dh VY_e) ?_
                  refine VT_h1 (VY_apa (T := 28) g93 VY_e) ?_
                  refine goT ?_
                  refine VT_nil ?_
                  exact R_pk 1 [0, 1, 2, 3, 4, 5, 6, 7, 8]
                refine VT_h1 (VY_lb (T := 28) (us := eBounds [(TBound.mk [101, 113] (TType.mk x92_0_0 x92_0_1 x92_0_2))]) VY_e) ?_
                refine VT_h1 (VY_dh VY_e) ?_
                refine VT_h1 (VY_dh VY_e) ?_
                refine VT_h1 (VY_apa (T := 28) g93 VY_e) ?_
                refine goT ?_
                refine VT_nil ?_
                exact R_pk 1 [0, 1, 2, 3, 4, 5, 6, 7, 8]
              refine goL ?_
              refine V_freeze 6 rfl rfl ?_
              refine V_freeze 7 rfl rfl ?_
              refine V_freeze 4 rfl rfl ?_
              refine V_ret ?_
              replace h := Option.some.inj h
              subst h
              exact R_rF [.d (.st [.s x1_0, .sl 1 (eStrs [[97]]), .st [.i .i64 x78_0, .s x78_1, .sl 3 (eTypes x78_2)], .sl 4 (eBounds ([(TBound.mk [111, 114, 100] (TType.mk x79_0 x79_1 x79_2))] ++ [(TBound.mk [101, 113] (TType.mk x92_0_0 x92_0_1 x92_0_2))])), .b x84_0, .b b81_3, .st [.i .i64 b81_4, .s b81_5, .sl 3 (eTypes b81_6)], .sl 11 (eMethods [(TMethod.mk [109] [[120]] (TExpr.mk x3_0 x3_1 x3_2 x3_3 (TType.mk x3_4_0 x3_4_1 x3_4_2) x3_5 x3_6))])])] [.box [.d (.sl 1 (eBytes x92_1_0)), .d (.i .i64 x92_1_1), .d (.i .i64 x92_1_2)]] ⟨rfl, rfl⟩
            · as_aux_lemma =>
              replace h := cnd_f c91 h
              refine goL ?_
              refine V_cb (fun c94 => ?_) (fun c94 => ?_)
              · as_aux_lemma =>
                replace h := cnd_t c94 h
                obtain ⟨x95, hx95, h⟩ := bnd_s h
                obtain ⟨⟨x95_0_0, x95_0_1, x95_0_2, x95_0_3, ⟨x95_0_4_0, x95_0_4_1, x95_0_4_2⟩, x95_0_5, x95_0_6⟩, ⟨x95_1_0, x95_1_1, x95_1_2⟩⟩ := x95
                obtain ⟨x96, hx96, h⟩ := bnd_s h
                obtain ⟨hx960, hx96⟩ := at_s hx96
                obtain ⟨x96_0, x96_1, ⟨x96_2_0, x96_2_1, x96_2_2, x96_2_3, ⟨x96_2_4_0, x96_2_4_1, x96_2_4_2⟩, x96_2_5, x96_2_6⟩⟩ := x96
                refine V_drawTJ (P := Try.prog) Mix.h (.q 2 (.h 0 (.h 1 (.h 3 (.h 4 (.h 5 (.h 6 (.h 7 .nil .nil) .nil) .nil) .nil) .nil) (.h 3 (.h 1 (.h 4 (.h 5 (.h 6 (.h 7 .nil .nil) .nil) .nil) .nil) (.h 4 (.h 1 (.h 5 (.h 6 (.h 7 .nil .nil) .nil) .nil) .nil) .nil)) .nil)) (.h 3 (.h 0 (.h 1 (.h 4 (.h 5 (.h 6 (.h 7 .nil .nil) .nil) .nil) .nil) (.h 4 (.h 1 (.h 5 (.h 6 (.h 7 .nil .nil) .nil) .nil) .nil) .nil)) (.h 4 (.h 0 (.h 1 (.h 5 (.h 6 (.h 7 .nil .nil) .nil) .nil) .nil) .nil) .nil)) .nil))) ⟨[(2, .ptr 1 0), (3, .ptr 5 0)], [.box [.d (.sl 1 (eBytes x95_1_0)), .d (.i .i64 x95_1_1), .d (.i .i64 x95_1_2)], .box [.d (.s []), .nilsl, .d (.i .i64 0), .d (.s []), .nilsl, .nilsl, .d (.b false), .d (.b false), .d (.i .i64 0), .d (.s []), .nilsl, .nilsl], .frz 9 1 0 (eStrs [[115, 104, 111, 119], [101, 113], [97, 100, 100]]), .frz 9 1 0 (eStrs [[120]]), .arr 65 11 0 (eMethods ([(TMethod.mk [109] [[120]] (TExpr.mk x3_0 x3_1 x3_2 x3_3 (TType.mk x3_4_0 x3_4_1 x3_4_2) x3_5 x3_6))].set 0 (TMethod.mk x96_0 x96_1 (TExpr.mk x95_0_0 x95_0_1 x95_0_2 x95_0_3 (TType.mk x95_0_4_0 x95_0_4_1 x95_0_4_2) x95_0_5 x95_0_6)))), .box [.d (.s x1_0), .sl 6 0, .d (.i .i64 x78_0), .d (.s x78_1), .d (.sl 3 (eTypes x78_2)), .sl 7 0, .d (.b x84_0), .d (.b b81_3), .d (.i .i64 b81_4), .d (.s b81_5), .d (.sl 3 (eTypes b81_6)), .sl 4 0], .arr 9 1 0 (eStrs [[97]]), .arr 69 4 0 (eBounds [(TBound.mk [111, 114, 100] (TType.mk x79_0 x79_1 x79_2))]), .frz 9 1 0 (eStrs [[120], [121]])], Try.f17.ntmps⟩ (by kernel_rfl) ?_ ?_
                · as_aux_lemma =>
                  refine goT ?_
                  refine VT_h (VY_dh VY_e) ?_ ?_
                  · as_aux_lemma =>
                    refine VT_h (VY_dh VY_e) ?_ ?_
                    · refine VT_h1 (VY_lb (T := 24) (us := eStrs [[120], [121]]) VY_e) ?_
                      refine VT_h1 (VY_frz 8 rfl rfl (VY_cG (sv := .d (.st [.i .i64 x95_0_0, .s x95_0_1, .s x95_0_2, .i .i64 x95_0_3, .st [.i .i64 x95_0_4_0, .s x95_0_4_1, .sl 3 (eTypes x95_0_4_2)], .sl 9 (eExprs x95_0_5), .sl 11 (eArms x95_0_6)])) (L' := [.box [.d (.sl 1 (eBytes x95_1_0)), .d (.i .i64 x95_1_1), .d (.i .i64 x95_1_2)], .box [.d (.s []), .nilsl, .d (.i .i64 0), .d (.s []), .nilsl, .nilsl, .d (.b false), .d (.b false), .d (.i .i64 0), .d (.s []), .nilsl, .nilsl], .frz 9 1 0 (eStrs [[115, 104, 111, 119], [101, 113], [97, 100, 100]]), .frz 9 1 0 (eStrs [[120]]), .arr 65 11 0 (eMethods [(TMethod.mk [109] [[120]] (TExpr.mk x3_0 x3_1 x3_2 x3_3 (TType.mk x3_4_0 x3_4_1 x3_4_2) x3_5 x3_6))]), .box [.d (.s x1_0), .sl 6 0, .d (.i .i64 x78_0), .d (.s x78_1), .d (.sl 3 (eTypes x78_2)), .sl 7 0, .d (.b x84_0), .d (.b b81_3), .d (.i .i64 b81_4), .d (.s b81_5), .d (.sl 3 (eTypes b81_6)), .sl 4 0], .arr 9 1 0 (eStrs [[97]]), .arr 69 4 0 (eBounds [(TBound.mk [111, 114, 100] (TType.mk x79_0 x79_1 x79_2))]), .frz 9 1 0 (eStrs [[120], [121]])]) [0] (s_l11Expr 8 (Tl1Cur.mk x85_1_0 x85_1_1 x85_1_2) [[120], [121]] 2 hx95) VY_e)) ?_
                      refine VT_h1 (VY_ixa 0 (List.getElem?_eq_some_iff.1 hx96).1 VY_e) ?_
                      refine VT_h1 (VY_fla VY_e) ?_
                      refine VT_h1 (VY_stm [(.s x96_0), (.sl 1 (eStrs x96_1))] [] (.st [.i .i64 x96_2_0, .s x96_2_1, .s x96_2_2, .i .i64 x96_2_3, .st [.i .i64 x96_2_4_0, .s x96_2_4_1, .sl 3 (eTypes x96_2_4_2)], .sl 9 (eExprs x96_2_5), .sl 11 (eArms x96_2_6)]) (.st [.i .i64 x95_0_0, .s x95_0_1, .s x95_0_2, .i .i64 x95_0_3, .st [.i .i64 x95_0_4_0, .s x95_0_4_1, .sl 3 (eTypes x95_0_4_2)], .sl 9 (eExprs x95_0_5), .sl 11 (eArms x95_0_6)]) (TMethod.mk x96_0 x96_1 (TExpr.mk x96_2_0 x96_2_1 x96_2_2 x96_2_3 (TType.mk x96_2_4_0 x96_2_4_1 x96_2_4_2) x96_2_5 x96_2_6)) (TMethod.mk x96_0 x96_1 (TExpr.mk x95_0_0 x95_0_1 x95_0_2 x95_0_3 (TType.mk x95_0_4_0 x95_0_4_1 x95_0_4_2) x95_0_5 x95_0_6)) hx96 VY_e) ?_
                      refine VT_nil ?_
                      exact R_pk 1 [0, 1, 2, 3, 4, 5, 6, 7, 8]
                    refine VT_h1 (VY_lb (T := 24) (us := eStrs [[120], [121]]) VY_e) ?_
                    refine VT_h (VY_dh VY_e) ?_ ?_
                    · refine VT_h1 (VY_frz 8 rfl rfl (VY_cG (sv := .d (.st [.i .i64 x95_0_0, .s x95_0_1, .s x95_0_2, .i .i64 x95_0_3, .st [.i .i64 x95_0_4_0, .s x95_0_4_1, .sl 3 (eTypes x95_0_4_2)], .sl 9 (eExprs x95_0_5), .sl 11 (eArms x95_0_6)])) (L' := [.box [.d (.sl 1 (eBytes x95_1_0)), .d (.i .i64 x95_1_1), .d (.i .i64 x95_1_2)], .box [.d (.s []), .nilsl, .d (.i .i64 0), .d (.s []), .nilsl, .nilsl, .d (.b false), .d (.b false), .d (.i .i64 0), .d (.s []), .nilsl, .nilsl], .frz 9 1 0 (eStrs [[115, 104, 111, 119], [101, 113], [97, 100, 100]]), .frz 9 1 0 (eStrs [[120]]), .arr 65 11 0 (eMethods [(TMethod.mk [109] [[120]] (TExpr.mk x3_0 x3_1 x3_2 x3_3 (TType.mk x3_4_0 x3_4_1 x3_4_2) x3_5 x3_6))]), .box [.d (.s x1_0), .sl 6 0, .d (.i .i64 x78_0), .d (.s x78_1), .d (.sl 3 (eTypes x78_2)), .sl 7 0, .d (.b x84_0), .d (.b b81_3), .d (.i .i64 b81_4), .d (.s b81_5), .d (.sl 3 (eTypes b81_6)), .sl 4 0], .arr 9 1 0 (eStrs [[97]]), .arr 69 4 0 (eBounds [(TBound.mk [111, 114, 100] (TType.mk x79_0 x79_1 x79_2))]), .frz 9 1 0 (eStrs [[120], [121]])]) [0] (s_l11Expr 8 (Tl1Cur.mk x85_1_0 x85_1_1 x85_1_2) [[120], [121]] 2 hx95) VY_e)) ?_
                      refine VT_h1 (VY_ixa 0 (List.getElem?_eq_some_iff.1 hx96).1 VY_e) ?_
                      refine VT_h1 (VY_fla VY_e) ?_
                      refine VT_h1 (VY_stm [(.s x96_0), (.sl 1 (eStrs x96_1))] [] (.st [.i .i64 x96_2_0, .s x96_2_1, .s x96_2_2, .i .i64 x96_2_3, .st [.i .i64 x96_2_4_0, .s x96_2_4_1, .sl 3 (eTypes x96_2_4_2)], .sl 9 (eExprs x96_2_5), .sl 11 (eArms x96_2_6)]) (.st [.i .i64 x95_0_0, .s x95_0_1, .s x95_0_2, .i .i64 x95_0_3, .st [.i .i64 x95_0_4_0, .s x95_0_4_1, .sl 3 (eTypes x95_0_4_2)], .sl 9 (eExprs x95_0_5), .sl 11 (eArms x95_0_6)]) (TMethod.mk x96_0 x96_1 (TExpr.mk x96_2_0 x96_2_1 x96_2_2 x96_2_3 (TType.mk x96_2_4_0 x96_2_4_1 x96_2_4_2) x96_2_5 x96_2_6)) (TMethod.mk x96_0 x96_1 (TExpr.mk x95_0_0 x95_0_1 x95_0_2 x95_0_3 (TType.mk x95_0_4_0 x95_0_4_1 x95_0_4_2) x95_0_5 x95_0_6)) hx96 VY_e) ?_
                      refine VT_nil ?_
                      exact R_pk 1 [0, 1, 2, 3, 4, 5, 6, 7, 8]
                    refine VT_h1 (VY_frz 8 rfl rfl (VY_cG (sv := .d (.st [.i .i64 x95_0_0, .s x95_0_1, .s x95_0_2, .i .i64 x95_0_3, .st [.i .i64 x95_0_4_0, .s x95_0_4_1, .sl 3 (eTypes x95_0_4_2)], .sl 9 (eExprs x95_0_5), .sl 11 (eArms x95_0_6)])) (L' := [.box [.d (.sl 1 (eBytes x95_1_0)), .d (.i .i64 x95_1_1), .d (.i .i64 x95_1_2)], .box [.d (.s []), .nilsl, .d (.i .i64 0), .d (.s []), .nilsl, .nilsl, .d (.b false), .d (.b false), .d (.i .i64 0), .d (.s []), .nilsl, .nilsl], .frz 9 1 0 (eStrs [[115, 104, 111, 119], [101, 113], [97, 100, 100]]), .frz 9 1 0 (eStrs [[120]]), .arr 65 11 0 (eMethods [(TMethod.mk [109] [[120]] (TExpr.mk x3_0 x3_1 x3_2 x3_3 (TType.mk x3_4_0 x3_4_1 x3_4_2) x3_5 x3_6))]), .box [.d (.s x1_0), .sl 6 0, .d (.i .i64 x78_0), .d (.s x78_1), .d (.sl 3 (eTypes x78_2)), .sl 7 0, .d (.b x84_0), .d (.b b81_3), .d (.i .i64 b81_4), .d (.s b81_5), .d (.sl 3 (eTypes b81_6)), .sl 4 0], .arr 9 1 0 (eStrs [[97]]), .arr 69 4 0 (eBounds [(TBound.mk [111, 114, 100] (TType.mk x79_0 x79_1 x79_2))]), .frz 9 1 0 (eStrs [[120], [121]])]) [0] (s_l11Expr 8 (Tl1Cur.mk x85_1_0 x85_1_1 x85_1_2) [[120], [121]] 2 hx95) VY_e)) ?_
                    refine VT_h1 (VY_dh VY_e) ?_
                    refine VT_h1 (VY_ixa 0 (List.getElem?_eq_some_iff.1 hx96).1 VY_e) ?_
                    refine VT_h1 (VY_fla VY_e) ?_
                    refine VT_h1 (VY_stm [(.s x96_0), (.sl 1 (eStrs x96_1))] [] (.st [.i .i64 x96_2_0, .s x96_2_1, .s x96_2_2, .i .i64 x96_2_3, .st [.i .i64 x96_2_4_0, .s x96_2_4_1, .sl 3 (eTypes x96_2_4_2)], .sl 9 (eExprs x96_2_5), .sl 11 (eArms x96_2_6)]) (.st [.i .i64 x95_0_0, .s x95_0_1, .s x95_0_2, .i .i64 x95_0_3, .st [.i .i64 x95_0_4_0, .s x95_0_4_1, .sl 3 (eTypes x95_0_4_2)], .sl 9 (eExprs x95_0_5), .sl 11 (eArms x95_0_6)]) (TMethod.mk x96_0 x96_1 (TExpr.mk x96_2_0 x96_2_1 x96_2_2 x96_2_3 (TType.mk x96_2_4_0 x96_2_4_1 x96_2_4_2) x96_2_5 x96_2_6)) (TMethod.mk x96_0 x96_1 (TExpr.mk x95_0_0 x95_0_1 x95_0_2 x95_0_3 (TType.mk x95_0_4_0 x95_0_4_1 x95_0_4_2) x95_0_5 x95_0_6)) hx96 VY_e) ?_
                    refine VT_nil ?_
                    exact R_pk 1 [0, 1, 2, 3, 4, 5, 6, 7, 8]
                  refine VT_h1 (VY_lb (T := 24) (us := eStrs [[120], [121]]) VY_e) ?_
                  refine VT_h (VY_dh VY_e) ?_ ?_
                  · as_aux_lemma =>
                    refine VT_h (VY_dh VY_e) ?_ ?_
                    · refine VT_h1 (VY_frz 8 rfl rfl (VY_cG (sv := .d (.st [.i .i64 x95_0_0, .s x95_0_1, .s x95_0_2, .i .i64 x95_0_3, .st [.i .i64 x95_0_4_0, .s x95_0_4_1, .sl 3 (eTypes x95_0_4_2)], .sl 9 (eExprs x95_0_5), .sl 11 (eArms x95_0_6)])) (L' := [.box [.d (.sl 1 (eBytes x95_1_0)), .d (.i .i64 x95_1_1), .d (.i .i64 x95_1_2)], .box [.d (.s []), .nilsl, .d (.i .i64 0), .d (.s []), .nilsl, .nilsl, .d (.b false), .d (.b false), .d (.i .i64 0), .d (.s []), .nilsl, .nilsl], .frz 9 1 0 (eStrs [[115, 104, 111, 119], [101, 113], [97, 100, 100]]), .frz 9 1 0 (eStrs [[120]]), .arr 65 11 0 (eMethods [(TMethod.mk [109] [[120]] (TExpr.mk x3_0 x3_1 x3_2 x3_3 (TType.mk x3_4_0 x3_4_1 x3_4_2) x3_5 x3_6))]), .box [.d (.s x1_0), .sl 6 0, .d (.i .i64 x78_0), .d (.s x78_1), .d (.sl 3 (eTypes x78_2)), .sl 7 0, .d (.b x84_0), .d (.b b81_3), .d (.i .i64 b81_4), .d (.s b81_5), .d (.sl 3 (eTypes b81_6)), .sl 4 0], .arr 9 1 0 (eStrs [[97]]), .arr 69 4 0 (eBounds [(TBound.mk [111, 114, 100] (TType.mk x79_0 x79_1 x79_2))]), .frz 9 1 0 (eStrs [[120], [121]])]) [0] (s_l11Expr 8 (Tl1Cur.mk x85_1_0 x85_1_1 x85_1_2) [[120], [121]] 2 hx95) VY_e)) ?_
                      refine VT_h1 (VY_ixa 0 (List.getElem?_eq_some_iff.1 hx96).1 VY_e) ?_
                      refine VT_h1 (VY_fla VY_e) ?_
                      refine VT_h1 (VY_stm [(.s x96_0), (.sl 1 (eStrs x96_1))] [] (.st [.i .i64 x96_2_0, .s x96_2_1, .s x96_2_2, .i .i64 x96_2_3, .st [.i .i64 x96_2_4_0, .s x96_2_4_1, .sl 3 (eTypes x96_2_4_2)], .sl 9 (eExprs x96_2_5), .sl 11 (eArms x96_2_6)]) (.st [.i .i64 x95_0_0, .s x95_0_1, .s x95_0_2, .i .i64 x95_0_3, .st [.i .i64 x95_0_4_0, .s x95_0_4_1, .sl 3 (eTypes x95_0_4_2)], .sl 9 (eExprs x95_0_5), .sl 11 (eArms x95_0_6)]) (TMethod.mk x96_0 x96_1 (TExpr.mk x96_2_0 x96_2_1 x96_2_2 x96_2_3 (TType.mk x96_2_4_0 x96_2_4_1 x96_2_4_2) x96_2_5 x96_2_6)) (TMethod.mk x96_0 x96_1 (TExpr.mk x95_0_0 x95_0_1 x95_0_2 x95_0_3 (TType.mk x95_0_4_0 x95_0_4_1 x95_0_4_2) x95_0_5 x95_0_6)) hx96 VY_e) ?_
                      refine VT_nil ?_
                      exact R_pk 1 [0, 1, 2, 3, 4, 5, 6, 7, 8]
                    refine VT_h1 (VY_frz 8 rfl rfl (VY_cG (sv := .d (.st [.i .i64 x95_0_0, .s x95_0_1, .s x95_0_2, .i .i64 x95_0_3, .st [.i .i64 x95_0_4_0, .s x95_0_4_1, .sl 3 (eTypes x95_0_4_2)], .sl 9 (eExprs x95_0_5), .sl 11 (eArms x95_0_6)])) (L' := [.box [.d (.sl 1 (eBytes x95_1_0)), .d (.i .i64 x95_1_1), .d (.i .i64 x95_1_2)], .box [.d (.s []), .nilsl, .d (.i .i64 0), .d (.s []), .nilsl, .nilsl, .d (.b false), .d (.b false), .d (.i .i64 0), .d (.s []), .nilsl, .nilsl], .frz 9 1 0 (eStrs [[115, 104, 111, 119], [101, 113], [97, 100, 100]]), .frz 9 1 0 (eStrs [[120]]), .arr 65 11 0 (eMethods [(TMethod.mk [109] [[120]] (TExpr.mk x3_0 x3_1 x3_2 x3_3 (TType.mk x3_4_0 x3_4_1 x3_4_2) x3_5 x3_6))]), .box [.d (.s x1_0), .sl 6 0, .d (.i .i64 x78_0), .d (.s x78_1), .d (.sl 3 (eTypes x78_2)), .sl 7 0, .d (.b x84_0), .d (.b b81_3), .d (.i .i64 b81_4), .d (.s b81_5), .d (.sl 3 (eTypes b81_6)), .sl 4 0], .arr 9 1 0 (eStrs [[97]]), .arr 69 4 0 (eBounds [(TBound.mk [111, 114, 100] (TType.mk x79_0 x79_1 x79_2))]), .frz 9 1 0 (eStrs [[120], [121]])]) [0] (s_l11Expr 8 (Tl1Cur.mk x85_1_0 x85_1_1 x85_1_2) [[120], [121]] 2 hx95) VY_e)) ?_
                    refine VT_h1 (VY_dh VY_e) ?_
                    refine VT_h1 (VY_ixa 0 (List.getElem?_eq_some_iff.1 hx96).1 VY_e) ?_
                    refine VT_h1 (VY_fla VY_e) ?_
                    refine VT_h1 (VY_stm [(.s x96_0), (.sl 1 (eStrs x96_1))] [] (.st [.i .i64 x96_2_0, .s x96_2_1, .s x96_2_2, .i .i64 x96_2_3, .st [.i .i64 x96_2_4_0, .s x96_2_4_1, .sl 3 (eTypes x96_2_4_2)], .sl 9 (eExprs x96_2_5), .sl 11 (eArms x96_2_6)]) (.st [.i .i64 x95_0_0, .s x95_0_1, .s x95_0_2, .i .i64 x95_0_3, .st [.i .i64 x95_0_4_0, .s x95_0_4_1, .sl 3 (eTypes x95_0_4_2)], .sl 9 (eExprs x95_0_5), .sl 11 (eArms x95_0_6)]) (TMethod.mk x96_0 x96_1 (TExpr.mk x96_2_0 x96_2_1 x96_2_2 x96_2_3 (TType.mk x96_2_4_0 x96_2_4_1 x96_2_4_2) x96_2_5 x96_2_6)) (TMethod.mk x96_0 x96_1 (TExpr.mk x95_0_0 x95_0_1 x95_0_2 x95_0_3 (TType.mk x95_0_4_0 x95_0_4_1 x95_0_4_2) x95_0_5 x95_0_6)) hx96 VY_e) ?_
                    refine VT_nil ?_
                    exact R_pk 1 [0, 1, 2, 3, 4, 5, 6, 7, 8]
                  refine VT_h1 (VY_frz 8 rfl rfl (VY_cG (sv := .d (.st [.i .i64 x95_0_0, .s x95_0_1, .s x95_0_2, .i .i64 x95_0_3, .st [.i .i64 x95_0_4_0, .s x95_0_4_1, .sl 3 (eTypes x95_0_4_2)], .sl 9 (eExprs x95_0_5), .sl 11 (eArms x95_0_6)])) (L' := [.box [.d (.sl 1 (eBytes x95_1_0)), .d (.i .i64 x95_1_1), .d (.i .i64 x95_1_2)], .box [.d (.s []), .nilsl, .d (.i .i64 0), .d (.s []), .nilsl, .nilsl, .d (.b false), .d (.b false), .d (.i .i64 0), .d (.s []), .nilsl, .nilsl], .frz 9 1 0 (eStrs [[115, 104, 111, 119], [101, 113], [97, 100, 100]]), .frz 9 1 0 (eStrs [[120]]), .arr 65 11 0 (eMethods [(TMethod.mk [109] [[120]] (TExpr.mk x3_0 x3_1 x3_2 x3_3 (TType.mk x3_4_0 x3_4_1 x3_4_2) x3_5 x3_6))]), .box [.d (.s x1_0), .sl 6 0, .d (.i .i64 x78_0), .d (.s x78_1), .d (.sl 3 (eTypes x78_2)), .sl 7 0, .d (.b x84_0), .d (.b b81_3), .d (.i .i64 b81_4), .d (.s b81_5), .d (.sl 3 (eTypes b81_6)), .sl 4 0], .arr 9 1 0 (eStrs [[97]]), .arr 69 4 0 (eBounds [(TBound.mk [111, 114, 100] (TType.mk x79_0 x79_1 x79_2))]), .frz 9 1 0 (eStrs [[120], [121]])]) [0] (s_l11Expr 8 (Tl1Cur.mk x85_1_0 x85_1_1 x85_1_2) [[120], [121]] 2 hx95) VY_e)) ?_
                  refine VT_h1 (VY_dh VY_e) ?_
                  refine VT_h1 (VY_dh VY_e) ?_
                  refine VT_h1 (VY_ixa 0 (List.getElem?_eq_some_iff.1 hx96).1 VY_e) ?_
                  refine VT_h1 (VY_fla VY_e) ?_
                  refine VT_h1 (VY_stm [(.s x96_0), (.sl 1 (eStrs x96_1))] [] (.st [.i .i64 x96_2_0, .s x96_2_1, .s x96_2_2, .i .i64 x96_2_3, .st [.i .i64 x96_2_4_0, .s x96_2_4_1, .sl 3 (eTypes x96_2_4_2)], .sl 9 (eExprs x96_2_5), .sl 11 (eArms x96_2_6)]) (.st [.i .i64 x95_0_0, .s x95_0_1, .s x95_0_2, .i .i64 x95_0_3, .st [.i .i64 x95_0_4_0, .s x95_0_4_1, .sl 3 (eTypes x95_0_4_2)], .sl 9 (eExprs x95_0_5), .sl 11 (eArms x95_0_6)]) (TMethod.mk x96_0 x96_1 (TExpr.mk x96_2_0 x96_2_1 x96_2_2 x96_2_3 (TType.mk x96_2_4_0 x96_2_4_1 x96_2_4_2) x96_2_5 x96_2_6)) (TMethod.mk x96_0 x96_1 (TExpr.mk x95_0_0 x95_0_1 x95_0_2 x95_0_3 (TType.mk x95_0_4_0 x95_0_4_1 x95_0_4_2) x95_0_5 x95_0_6)) hx96 VY_e) ?_
                  refine VT_nil ?_
                  exact R_pk 1 [0, 1, 2, 3, 4, 5, 6, 7, 8]
                refine goL ?_
                refine V_freeze 6 rfl rfl ?_
                refine V_freeze 7 rfl rfl ?_
                refine V_freeze 4 rfl rfl ?_
                refine V_ret ?_
                replace h := Option.some.inj h
                subst h
                exact R_rF [.d (.st [.s x1_0, .sl 1 (eStrs [[97]]), .st [.i .i64 x78_0, .s x78_1, .sl 3 (eTypes x78_2)], .sl 4 (eBounds [(TBound.mk [111, 114, 100] (TType.mk x79_0 x79_1 x79_2))]), .b x84_0, .b b81_3, .st [.i .i64 b81_4, .s b81_5, .sl 3 (eTypes b81_6)], .sl 11 (eMethods ([(TMethod.mk [109] [[120]] (TExpr.mk x3_0 x3_1 x3_2 x3_3 (TType.mk x3_4_0 x3_4_1 x3_4_2) x3_5 x3_6))].set 0 (TMethod.mk x96_0 x96_1 (TExpr.mk x95_0_0 x95_0_1 x95_0_2 x95_0_3 (TType.mk x95_0_4_0 x95_0_4_1 x95_0_4_2) x95_0_5 x95_0_6))))])] [.box [.d (.sl 1 (eBytes x95_1_0)), .d (.i .i64 x95_1_1), .d (.i .i64 x95_1_2)]] ⟨rfl, rfl⟩
              · as_aux_lemma =>
                replace h := cnd_f c94 h
                refine goL ?_
                refine V_cb (fun c97 => ?_) (fun c97 => ?_)
                · as_aux_lemma =>
                  replace h := cnd_t c97 h
                  refine goL ?_
                  obtain ⟨x98, hx98, h⟩ := bnd_s h
                  obtain ⟨x98_0, x98_1, x98_2⟩ := x98
                  refine VO_r (QR_call (w_l4Int  hx98)) ?_
                  refine goL ?_
                  refine V_freeze 6 rfl rfl ?_
                  refine V_freeze 7 rfl rfl ?_
                  refine V_freeze 4 rfl rfl ?_
                  refine V_ret ?_
                  replace h := Option.some.inj h
                  subst h
                  exact R_rF [.d (.st [.s x1_0, .sl 1 (eStrs [[97]]), .st [.i .i64 x78_0, .s x78_1, .sl 3 (eTypes x78_2)], .sl 4 (eBounds [(TBound.mk [111, 114, 100] (TType.mk x79_0 x79_1 x79_2))]), .b x84_0, .b b81_3, .st [.i .i64 x98_0, .s x98_1, .sl 3 (eTypes x98_2)], .sl 11 (eMethods [(TMethod.mk [109] [[120]] (TExpr.mk x3_0 x3_1 x3_2 x3_3 (TType.mk x3_4_0 x3_4_1 x3_4_2) x3_5 x3_6))])])] [.box [.d (.sl 1 (eBytes x85_1_0)), .d (.i .i64 x85_1_1), .d (.i .i64 x85_1_2)]] ⟨rfl, rfl⟩
                · as_aux_lemma =>
                  replace h := cnd_f c97 h
                  refine goL ?_
                  refine V_cb (fun c99 => ?_) (fun c99 => ?_)
                  · as_aux_lemma =>
                    replace h := cnd_t c99 h
                    refine goL ?_
                    refine VO_l0 ?_
                    obtain ⟨x100, hx100, h⟩ := bnd_s h
                    obtain ⟨hx1000, hx100⟩ := at_s hx100
                    obtain ⟨x100_0, x100_1, ⟨x100_2_0, x100_2_1, x100_2_2, x100_2_3, ⟨x100_2_4_0, x100_2_4_1, x100_2_4_2⟩, x100_2_5, x100_2_6⟩⟩ := x100
                    refine VO_k (Q_ixa 0 (List.getElem?_eq_some_iff.1 hx100).1) ?_
                    refine VO_k (Q_fla) ?_
                    refine VO_freezeO 8 rfl rfl ?_
                    refine VO_stm [(.s x100_0)] [(.st [.i .i64 x100_2_0, .s x100_2_1, .s x100_2_2, .i .i64 x100_2_3, .st [.i .i64 x100_2_4_0, .s x100_2_4_1, .sl 3 (eTypes x100_2_4_2)], .sl 9 (eExprs x100_2_5), .sl 11 (eArms x100_2_6)])] (.sl 1 (eStrs x100_1)) (.sl 1 []) (TMethod.mk x100_0 x100_1 (TExpr.mk x100_2_0 x100_2_1 x100_2_2 x100_2_3 (TType.mk x100_2_4_0 x100_2_4_1 x100_2_4_2) x100_2_5 x100_2_6)) (TMethod.mk x100_0 [] (TExpr.mk x100_2_0 x100_2_1 x100_2_2 x100_2_3 (TType.mk x100_2_4_0 x100_2_4_1 x100_2_4_2) x100_2_5 x100_2_6)) hx100 ?_
                    refine goL ?_
                    refine V_freeze 6 rfl rfl ?_
                    refine V_freeze 7 rfl rfl ?_
                    refine V_freeze 4 rfl rfl ?_
                    refine V_ret ?_
                    replace h := Option.some.inj h
                    subst h
                    exact R_rF [.d (.st [.s x1_0, .sl 1 (eStrs [[97]]), .st [.i .i64 x78_0, .s x78_1, .sl 3 (eTypes x78_2)], .sl 4 (eBounds [(TBound.mk [111, 114, 100] (TType.mk x79_0 x79_1 x79_2))]), .b x84_0, .b b81_3, .st [.i .i64 b81_4, .s b81_5, .sl 3 (eTypes b81_6)], .sl 11 (eMethods ([(TMethod.mk [109] [[120]] (TExpr.mk x3_0 x3_1 x3_2 x3_3 (TType.mk x3_4_0 x3_4_1 x3_4_2) x3_5 x3_6))].set 0 (TMethod.mk x100_0 [] (TExpr.mk x100_2_0 x100_2_1 x100_2_2 x100_2_3 (TType.mk x100_2_4_0 x100_2_4_1 x100_2_4_2) x100_2_5 x100_2_6))))])] [.box [.d (.sl 1 (eBytes x85_1_0)), .d (.i .i64 x85_1_1), .d (.i .i64 x85_1_2)]] ⟨rfl, rfl⟩
                  · replace h := cnd_f c99 h
                    refine V_skip ?_
                    show V _ _ _ _ _
                    refine goL ?_
                    refine V_freeze 6 rfl rfl ?_
                    refine V_freeze 7 rfl rfl ?_
                    refine V_freeze 4 rfl rfl ?_
                    refine V_ret ?_
                    replace h := Option.some.inj h
                    subst h
                    exact R_rF [.d (.st [.s x1_0, .sl 1 (eStrs [[97]]), .st [.i .i64 x78_0, .s x78_1, .sl 3 (eTypes x78_2)], .sl 4 (eBounds [(TBound.mk [111, 114, 100] (TType.mk x79_0 x79_1 x79_2))]), .b x84_0, .b b81_3, .st [.i .i64 b81_4, .s b81_5, .sl 3 (eTypes b81_6)], .sl 11 (eMethods [(TMethod.mk [109] [[120]] (TExpr.mk x3_0 x3_1 x3_2 x3_3 (TType.mk x3_4_0 x3_4_1 x3_4_2) x3_5 x3_6))])])] [.box [.d (.sl 1 (eBytes x85_1_0)), .d (.i .i64 x85_1_1), .d (.i .i64 x85_1_2)]] ⟨rfl, rfl⟩
end Go.Proofs.Ytiaghdodeinecaa
