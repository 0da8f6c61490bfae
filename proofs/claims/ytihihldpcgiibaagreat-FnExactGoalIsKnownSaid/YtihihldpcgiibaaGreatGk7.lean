/- Gk7. Written by a program of mine (aw.py). -/
import Derived.Test.YtihihldpcgiibaaGreatFacts
import Derived.Test.YtihihldpcgiibaaGreatGk6
set_option linter.unusedVariables false
set_option linter.unusedSimpArgs false
set_option linter.unusedSectionVars false
namespace Go.Proofs.YtihihldpcgiibaaGreat
open Go Go.Eng
attribute [local irreducible] V VO VQ VY Quiet QR SpecP SpecO MSpec Rng PostP PostO PostG
instance tif95 : TI Tryz.prog 95 false 1 8 := ⟨by kernel_rfl⟩
instance tzf95 : TZ Tryz.prog 95 [.nilFunc] := ⟨by kernel_rfl⟩
def b_isTrait (w : TProgram) (s : List UInt8) : Bool :=
lt_ (b_iTrait w s) fun x1 =>
x1.2.2
set_option maxHeartbeats 4000000 in
theorem w_isTrait (w : TProgram) (s : List UInt8) : Go.Eng.Spec Tryz.prog 53 [.d (.s s), .ptr 0 0] [.box [.d (.sl 6 (ePackages w.packages))]] (fun sv Lo => sv = .d (.b (b_isTrait w s)) ∧ Lo = [.box [.d (.sl 6 (ePackages w.packages))]]) := by
  obtain ⟨r, h⟩ : ∃ r, b_isTrait w s = r := ⟨_, rfl⟩
  rw [h]
  obtain ⟨w_0⟩ := w
  unfold b_isTrait at h
  refine Spec_intro 1 Tryz.func53 rfl (by kernel_rfl) rfl rfl fun A _ => ?_
  refine goL ?_
  obtain ⟨x1, hx1, h⟩ := lt_x h
  obtain ⟨⟨x1_0_0, x1_0_1, x1_0_2, x1_0_3, x1_0_4⟩, x1_1, x1_2⟩ := x1
  have sx1 := w_iTrait (TProgram.mk w_0) s
  rw [hx1] at sx1
  refine VO_r (QR_call (sx1)) ?_
  refine goL ?_
  refine V_ret ?_
  subst h
  exact R_rG [.d (.b x1_2)] [.box [.d (.sl 6 (ePackages w_0))]] ⟨rfl, rfl⟩
def b_notTrait (w : TProgram) (b : TBound) : Bool :=
lt_ (b_isTrait w b.trait) fun x1 =>
(!x1)
set_option maxHeartbeats 4000000 in
theorem w_notTrait (w : TProgram) (b : TBound) : Go.Eng.Spec Tryz.prog 60 [.d (eBound b), .ptr 0 0] [.box [.fn 53 [.ptr 1 0]], .box [.d (.sl 6 (ePackages w.packages))]] (fun sv Lo => sv = .d (.b (b_notTrait w b)) ∧ Lo = [.box [.fn 53 [.ptr 1 0]], .box [.d (.sl 6 (ePackages w.packages))]]) := by
  obtain ⟨r, h⟩ : ∃ r, b_notTrait w b = r := ⟨_, rfl⟩
  rw [h]
  obtain ⟨w_0⟩ := w
  obtain ⟨b_0, ⟨b_1_0, b_1_1, b_1_2⟩⟩ := b
  unfold b_notTrait at h
  refine Spec_intro 2 Tryz.func60 rfl (by kernel_rfl) rfl rfl fun A _ => ?_
  refine goL ?_
  obtain ⟨x1, hx1, h⟩ := lt_x h
  have sx1 := w_isTrait (TProgram.mk w_0) b_0
  rw [hx1] at sx1
  refine VO_cG [1] sx1 ?_
  rintro _ _ ⟨rfl, rfl⟩
  show VO _ _ _ _ ⟨(_, .d (.b x1)) :: _, [.box [.fn 53 [.ptr 1 0]], .box [.d (.sl 6 (ePackages w_0))], .box [.d (.s b_0), .d (.i .i64 b_1_0), .d (.s b_1_1), .d (.sl 3 (eTypes b_1_2))]], _⟩ _
  refine goL ?_
  refine V_ret ?_
  subst h
  exact R_rG [.d (.b (!x1))] [.box [.fn 53 [.ptr 1 0]], .box [.d (.sl 6 (ePackages w_0))]] ⟨rfl, rfl⟩
def b_IndexNT_l1 (w : TProgram) : List TBound → Nat → Int
  | [], y1 => (-1)
  | x4 :: xs, y1 => lt_ (b_notTrait w x4) fun x5 =>
(cnd x5 (
(y1 : Int)) (
b_IndexNT_l1 w xs (y1 + 1)))
def b_IndexNT (w : TProgram) (l : List TBound) : Int :=
b_IndexNT_l1 w l 0
set_option maxHeartbeats 4000000 in
theorem w_IndexNT (w : TProgram) (l : List TBound) : Go.Eng.Spec Tryz.prog 104 [.d (.sl 4 (eBounds l)), .fn 60 [.ptr 0 0]] [.box [.fn 53 [.ptr 1 0]], .box [.d (.sl 6 (ePackages w.packages))]] (fun sv Lo => sv = .d (.i .i64 (b_IndexNT w l)) ∧ Lo = [.box [.fn 53 [.ptr 1 0]], .box [.d (.sl 6 (ePackages w.packages))]]) := by
  obtain ⟨r, h⟩ : ∃ r, b_IndexNT w l = r := ⟨_, rfl⟩
  rw [h]
  obtain ⟨w_0⟩ := w
  unfold b_IndexNT at h
  refine Spec_intro 2 Tryz.func104 rfl (by kernel_rfl) rfl rfl fun A _ => ?_
  refine goL ?_
  refine V_block ?_
  show V _ _ _ _ _
  refine V_bd 0 (fun z2 => ?_)
  refine V_loop1 (fun (y1 : Nat) => ⟨[(0, .d (.sl 4 (eBounds l))), (1, .fn 60 [.ptr 0 0]), (7, .d (.i .i64 (l.length : Int))), (8, .d (.i .i64 (y1 : Int)))], [.box [.fn 53 [.ptr 1 0]], .box [.d (.sl 6 (ePackages w_0))]], Tryz.f104.ntmps⟩) (fun y1 => b_IndexNT_l1 (TProgram.mk w_0) (l.drop y1) y1 = r) (fun y1 => l.length - y1) 0 ⟨rfl, ⟨⟨rfl, rfl⟩, ⟨rfl, rfl⟩, ⟨rfl, rfl⟩, ⟨rfl, rfl⟩, trivial⟩, ⟨[], rfl⟩, rfl⟩ h ?_
  rintro y1 h
  refine goL ?_
  refine V_seq (V_cb (fun c3 => ?_) (fun c3 => ?_))
  · have hky12 := kltN c3
    obtain ⟨x4, hx4, hdx4⟩ := drop_at hky12
    rw [hdx4, b_IndexNT_l1.eq_2] at h
    obtain ⟨x4_0, ⟨x4_1_0, x4_1_1, x4_1_2⟩⟩ := x4
    refine V_skip ?_
    show V _ _ _ _ _
    refine V_seq (V_block ?_)
    refine goL ?_
    refine VO_r (QR_ixn y1 (gBound hx4)) ?_
    refine goL ?_
    obtain ⟨x5, hx5, h⟩ := lt_x h
    have sx5 := w_notTrait (TProgram.mk w_0) (TBound.mk x4_0 (TType.mk x4_1_0 x4_1_1 x4_1_2))
    rw [hx5] at sx5
    refine VO_cG [0, 1] sx5 ?_
    rintro _ _ ⟨rfl, rfl⟩
    show VO _ _ _ _ ⟨(_, .d (.b x5)) :: _, [.box [.fn 53 [.ptr 1 0]], .box [.d (.sl 6 (ePackages w_0))]], _⟩ _
    refine goL ?_
    refine V_cb (fun c6 => ?_) (fun c6 => ?_)
    · replace h := cnd_t c6 h
      refine goL ?_
      refine V_ret ?_
      subst h
      exact R_rG [.d (.i .i64 (y1 : Int))] [.box [.fn 53 [.ptr 1 0]], .box [.d (.sl 6 (ePackages w_0))]] ⟨rfl, rfl⟩
    · replace h := cnd_f c6 h
      refine V_skip ?_
      show V _ _ _ _ _
      refine goL ?_
      refine VO_r (QR_inc y1 (by omega)) ?_
      refine goL ?_
      exact ⟨(y1 + 1), h, by omega, ⟨rfl, ⟨⟨rfl, rfl⟩, ⟨rfl, rfl⟩, ⟨rfl, rfl⟩, ⟨rfl, rfl⟩, trivial⟩, ⟨_, rfl⟩, rfl⟩⟩
  · have hky12 := kgeN c3
    rw [drop_end hky12, b_IndexNT_l1.eq_1] at h
    refine V_exit ?_
    show V _ _ _ _ _
    refine goL ?_
    refine V_ret ?_
    subst h
    exact R_rG [.d (.i .i64 (-1))] [.box [.fn 53 [.ptr 1 0]], .box [.d (.sl 6 (ePackages w_0))]] ⟨rfl, rfl⟩
def b_ContainsNT (w : TProgram) (l : List TBound) : Bool :=
lt_ (b_IndexNT w l) fun x1 =>
(decide (x1 ≥ 0))
set_option maxHeartbeats 4000000 in
theorem w_ContainsNT (w : TProgram) (l : List TBound) : Go.Eng.Spec Tryz.prog 58 [.d (.sl 4 (eBounds l)), .fn 60 [.ptr 0 0]] [.box [.fn 53 [.ptr 1 0]], .box [.d (.sl 6 (ePackages w.packages))]] (fun sv Lo => sv = .d (.b (b_ContainsNT w l)) ∧ Lo = [.box [.fn 53 [.ptr 1 0]], .box [.d (.sl 6 (ePackages w.packages))]]) := by
  obtain ⟨r, h⟩ : ∃ r, b_ContainsNT w l = r := ⟨_, rfl⟩
  rw [h]
  obtain ⟨w_0⟩ := w
  unfold b_ContainsNT at h
  refine Spec_intro 2 Tryz.func58 rfl (by kernel_rfl) rfl rfl fun A _ => ?_
  refine goL ?_
  obtain ⟨x1, hx1, h⟩ := lt_x h
  have sx1 := w_IndexNT (TProgram.mk w_0) l
  rw [hx1] at sx1
  refine VO_cG [0, 1] sx1 ?_
  rintro _ _ ⟨rfl, rfl⟩
  show VO _ _ _ _ ⟨(_, .d (.i .i64 x1)) :: _, [.box [.fn 53 [.ptr 1 0]], .box [.d (.sl 6 (ePackages w_0))]], _⟩ _
  refine goL ?_
  refine V_ret ?_
  subst h
  exact R_rG [.d (.b (decide (x1 ≥ 0)))] [.box [.fn 53 [.ptr 1 0]], .box [.d (.sl 6 (ePackages w_0))]] ⟨rfl, rfl⟩
def b_iValidType (a0 : TType) : Bool :=
lt_ ((cnd (frm a0) ((cnd (decide ((tdp a0) ≤ 6)) ((decide ((tsz a0) ≤ 60))) (false))) (false))) fun b1 =>
b1
set_option maxHeartbeats 4000000 in
theorem w_iValidType (a0 : TType) : SpecP Tryz.prog 99 [.d (eType a0)] [.b (b_iValidType a0)] := by
  obtain ⟨r, h⟩ : ∃ r, b_iValidType a0 = r := ⟨_, rfl⟩
  rw [h]
  obtain ⟨a0_0, a0_1, a0_2⟩ := a0
  unfold b_iValidType at h
  refine SpecP_intro Tryz.func99 rfl (by kernel_rfl) rfl fun A _ => ?_
  refine goL ?_
  refine VO_r (QR_call (t_iFormed (TType.mk a0_0 a0_1 a0_2))) ?_
  refine goL ?_
  obtain ⟨b1, hb1, h⟩ := lt_x h
  refine VO_join ⟨[(2, .d (.b b1))], [.box [.d (.i .i64 a0_0), .d (.s a0_1), .d (.sl 3 (eTypes a0_2))]], Tryz.f99.ntmps⟩ ?_ ?_
  · refine VO_case 5 (fun c2 => ?_) (fun c2 => ?_)
    · replace hb1 := cnd_t c2 hb1
      refine goL ?_
      refine VO_b ?_
      refine VO_r (QR_call (t_iDepth (TType.mk a0_0 a0_1 a0_2))) ?_
      refine goL ?_
      refine VO_case 10 (fun c3 => ?_) (fun c3 => ?_)
      · replace hb1 := cnd_t c3 hb1
        refine goL ?_
        refine VO_b ?_
        refine VO_r (QR_call (t_iTypeSize (TType.mk a0_0 a0_1 a0_2))) ?_
        refine goL ?_
        cases hb1
        exact ⟨rfl, ⟨⟨rfl, rfl⟩, trivial⟩, ⟨[], rfl⟩, rfl⟩
      · replace hb1 := cnd_f c3 hb1
        refine goL ?_
        cases hb1
        exact ⟨rfl, ⟨⟨rfl, rfl⟩, trivial⟩, ⟨[], rfl⟩, rfl⟩
    · replace hb1 := cnd_f c2 hb1
      refine goL ?_
      cases hb1
      exact ⟨rfl, ⟨⟨rfl, rfl⟩, trivial⟩, ⟨[], rfl⟩, rfl⟩
  refine goL ?_
  refine V_ret ?_
  subst h
  exact R_rP
def b_iValidBound (a0 : TBound) : Bool :=
lt_ ((cnd (b_iValidName a0.trait) ((b_iValidType a0.type_)) (false))) fun b1 =>
b1
set_option maxHeartbeats 4000000 in
theorem w_iValidBound (a0 : TBound) : SpecP Tryz.prog 55 [.d (eBound a0)] [.b (b_iValidBound a0)] := by
  obtain ⟨r, h⟩ : ∃ r, b_iValidBound a0 = r := ⟨_, rfl⟩
  rw [h]
  obtain ⟨a0_0, ⟨a0_1_0, a0_1_1, a0_1_2⟩⟩ := a0
  unfold b_iValidBound at h
  refine SpecP_intro Tryz.func55 rfl (by kernel_rfl) rfl fun A _ => ?_
  refine goL ?_
  refine VO_r (QR_call (w_iValidName a0_0)) ?_
  refine goL ?_
  obtain ⟨b1, hb1, h⟩ := lt_x h
  refine VO_join ⟨[(2, .d (.b b1))], [.box [.d (.s a0_0), .d (.i .i64 a0_1_0), .d (.s a0_1_1), .d (.sl 3 (eTypes a0_1_2))]], Tryz.f55.ntmps⟩ ?_ ?_
  · refine VO_case 6 (fun c2 => ?_) (fun c2 => ?_)
    · replace hb1 := cnd_t c2 hb1
      refine goL ?_
      refine VO_b ?_
      refine VO_r (QR_call (w_iValidType (TType.mk a0_1_0 a0_1_1 a0_1_2))) ?_
      refine goL ?_
      cases hb1
      exact ⟨rfl, ⟨⟨rfl, rfl⟩, trivial⟩, ⟨[], rfl⟩, rfl⟩
    · replace hb1 := cnd_f c2 hb1
      refine goL ?_
      cases hb1
      exact ⟨rfl, ⟨⟨rfl, rfl⟩, trivial⟩, ⟨[], rfl⟩, rfl⟩
  refine goL ?_
  refine V_ret ?_
  subst h
  exact R_rP
def b_sValidType (a0 : TType) : Option (Bool) :=
gd (tnd a0 ≤ 4294967296 ∧ 0 ≤ (60 : Int) ∧ (60 : Int) ≤ 4294967296) (lt_ ((cnd (decide ((l4left a0 60) ≥ 0)) ((cnd (decide ((tdp a0) ≤ 6)) ((frm a0)) (false))) (false))) fun b2 =>
(some b2))
set_option maxHeartbeats 4000000 in
theorem w_sValidType (a0 : TType) {r : Bool} (h : b_sValidType a0 = some r) : SpecP Tryz.prog 96 [.d (eType a0)] [.b r] := by
  obtain ⟨a0_0, a0_1, a0_2⟩ := a0
  unfold b_sValidType at h
  refine SpecP_intro Tryz.func96 rfl (by kernel_rfl) rfl fun A _ => ?_
  refine goL ?_
  obtain ⟨g1, h⟩ := gd_s h
  refine VO_r (QR_call (t_l4Left (TType.mk a0_0 a0_1 a0_2) 60 g1)) ?_
  refine goL ?_
  obtain ⟨b2, hb2, h⟩ := lt_x h
  refine VO_join ⟨[(2, .d (.b b2))], [.box [.d (.i .i64 a0_0), .d (.s a0_1), .d (.sl 3 (eTypes a0_2))]], Tryz.f96.ntmps⟩ ?_ ?_
  · refine VO_case 6 (fun c3 => ?_) (fun c3 => ?_)
    · replace hb2 := cnd_t c3 hb2
      refine goL ?_
      refine VO_b ?_
      refine VO_r (QR_call (t_sDepth (TType.mk a0_0 a0_1 a0_2))) ?_
      refine goL ?_
      refine VO_case 11 (fun c4 => ?_) (fun c4 => ?_)
      · replace hb2 := cnd_t c4 hb2
        refine goL ?_
        refine VO_b ?_
        refine VO_r (QR_call (t_sForm (TType.mk a0_0 a0_1 a0_2))) ?_
        refine goL ?_
        cases hb2
        exact ⟨rfl, ⟨⟨rfl, rfl⟩, trivial⟩, ⟨[], rfl⟩, rfl⟩
      · replace hb2 := cnd_f c4 hb2
        refine goL ?_
        cases hb2
        exact ⟨rfl, ⟨⟨rfl, rfl⟩, trivial⟩, ⟨[], rfl⟩, rfl⟩
    · replace hb2 := cnd_f c3 hb2
      refine goL ?_
      cases hb2
      exact ⟨rfl, ⟨⟨rfl, rfl⟩, trivial⟩, ⟨[], rfl⟩, rfl⟩
  refine goL ?_
  refine V_ret ?_
  replace h := Option.some.inj h
  subst h
  exact R_rP
def b_sValidBound (a0 : TBound) : Option (Bool) :=
bnd ((cnd (b_sValidName a0.trait) (bnd (b_sValidType a0.type_) fun x3 =>
(some x3)) ((some false)))) fun b1 =>
(some b1)
set_option maxHeartbeats 4000000 in
theorem w_sValidBound (a0 : TBound) {r : Bool} (h : b_sValidBound a0 = some r) : SpecP Tryz.prog 51 [.d (eBound a0)] [.b r] := by
  obtain ⟨a0_0, ⟨a0_1_0, a0_1_1, a0_1_2⟩⟩ := a0
  unfold b_sValidBound at h
  refine SpecP_intro Tryz.func51 rfl (by kernel_rfl) rfl fun A _ => ?_
  refine goL ?_
  refine VO_r (QR_call (w_sValidName a0_0)) ?_
  refine goL ?_
  obtain ⟨b1, hb1, h⟩ := bnd_s h
  refine VO_join ⟨[(2, .d (.b b1))], [.box [.d (.s a0_0), .d (.i .i64 a0_1_0), .d (.s a0_1_1), .d (.sl 3 (eTypes a0_1_2))]], Tryz.f51.ntmps⟩ ?_ ?_
  · refine VO_case 6 (fun c2 => ?_) (fun c2 => ?_)
    · replace hb1 := cnd_t c2 hb1
      refine goL ?_
      refine VO_b ?_
      obtain ⟨x3, hx3, hb1⟩ := bnd_s hb1
      refine VO_r (QR_call (w_sValidType (TType.mk a0_1_0 a0_1_1 a0_1_2) hx3)) ?_
      refine goL ?_
      cases hb1
      exact ⟨rfl, ⟨⟨rfl, rfl⟩, trivial⟩, ⟨[], rfl⟩, rfl⟩
    · replace hb1 := cnd_f c2 hb1
      refine goL ?_
      cases hb1
      exact ⟨rfl, ⟨⟨rfl, rfl⟩, trivial⟩, ⟨[], rfl⟩, rfl⟩
  refine goL ?_
  refine V_ret ?_
  replace h := Option.some.inj h
  subst h
  exact R_rP
def b_iGIK_l1 (a0 : TProgram) (a1 : TBound) : List (List UInt8) → Option (Bool)
  | [] => bnd (b_iProjIn a1.type_) fun x15 =>
lt_ (b_ContainsNT a0 x15) fun x16 =>
(some (!x16))
  | x9 :: xs => lt_ (b_iData a0 x9) fun x10 =>
lt_ ((cnd (!x10.2.2) (lt_ (b_isTrait a0 x9) fun x13 =>
(!x13)) (false))) fun b11 =>
(cnd b11 (
(some false)) (
b_iGIK_l1 a0 a1 xs ))
def b_iGIK (a0 : TProgram) (a1 : TBound) : Option (Bool) :=
lt_ ((cnd (!(b_iValidBound a1)) (true) (lt_ (b_isTrait a0 a1.trait) fun x3 =>
(!x3)))) fun b1 =>
(cnd b1 (
(some false)) (
bnd (b_iTypeNames a1.type_) fun x5 =>
b_iGIK_l1 a0 a1 x5 ))
set_option maxHeartbeats 4000000 in
theorem w_iGIK (a0 : TProgram) (a1 : TBound) {r : Bool} (h : b_iGIK a0 a1 = some r) : SpecP Tryz.prog 14 [.d (eProgram a0), .d (eBound a1)] [.b r] := by
  obtain ⟨a0_0⟩ := a0
  obtain ⟨a1_0, ⟨a1_1_0, a1_1_1, a1_1_2⟩⟩ := a1
  unfold b_iGIK at h
  refine SpecP_intro Tryz.func14 rfl (by kernel_rfl) rfl fun A _ => ?_
  refine goL ?_
  refine VO_r (QR_fn) ?_
  refine VO_alf ?_
  refine goL ?_
  refine VO_r (QR_call (w_iValidBound (TBound.mk a1_0 (TType.mk a1_1_0 a1_1_1 a1_1_2)))) ?_
  refine goL ?_
  obtain ⟨b1, hb1, h⟩ := lt_x h
  refine VO_join ⟨[(2, .ptr 0 0), (3, .ptr 1 0), (5, .ptr 2 0), (21, .d (.b b1))], [.box [.d (.sl 6 (ePackages a0_0))], .box [.d (.s a1_0), .d (.i .i64 a1_1_0), .d (.s a1_1_1), .d (.sl 3 (eTypes a1_1_2))], .box [.fn 53 [.ptr 0 0]]], Tryz.f14.ntmps⟩ ?_ ?_
  · refine VO_case 15 (fun c2 => ?_) (fun c2 => ?_)
    · replace hb1 := cnd_t c2 hb1
      refine goL ?_
      cases hb1
      exact ⟨rfl, ⟨⟨rfl, rfl⟩, ⟨rfl, rfl⟩, ⟨rfl, rfl⟩, ⟨rfl, rfl⟩, trivial⟩, ⟨[], rfl⟩, rfl⟩
    · replace hb1 := cnd_f c2 hb1
      refine goL ?_
      refine VO_b ?_
      obtain ⟨x3, hx3, hb1⟩ := lt_x hb1
      have sx3 := w_isTrait (TProgram.mk a0_0) a1_0
      rw [hx3] at sx3
      refine VO_cG [0] sx3 ?_
      rintro _ _ ⟨rfl, rfl⟩
      show VO _ _ _ _ ⟨(_, .d (.b x3)) :: _, [.box [.d (.sl 6 (ePackages a0_0))], .box [.d (.s a1_0), .d (.i .i64 a1_1_0), .d (.s a1_1_1), .d (.sl 3 (eTypes a1_1_2))], .box [.fn 53 [.ptr 0 0]]], _⟩ _
      refine goL ?_
      cases hb1
      exact ⟨rfl, ⟨⟨rfl, rfl⟩, ⟨rfl, rfl⟩, ⟨rfl, rfl⟩, ⟨rfl, rfl⟩, trivial⟩, ⟨[], rfl⟩, rfl⟩
  refine goL ?_
  refine V_cb (fun c4 => ?_) (fun c4 => ?_)
  · replace h := cnd_t c4 h
    refine goL ?_
    refine V_ret ?_
    replace h := Option.some.inj h
    subst h
    exact R_rP
  · replace h := cnd_f c4 h
    refine V_skip ?_
    show V _ _ _ _ _
    refine goL ?_
    obtain ⟨x5, hx5, h⟩ := bnd_s h
    refine VO_r (QR_call (w_iTypeNames (TType.mk a1_1_0 a1_1_1 a1_1_2) hx5)) ?_
    refine goL ?_
    refine V_block ?_
    show V _ _ _ _ _
    refine V_bd 24 (fun z7 => ?_)
    refine V_loop1 (fun (y6 : Nat) => ⟨[(2, .ptr 0 0), (3, .ptr 1 0), (5, .ptr 2 0), (24, .d (.sl 1 (eStrs x5))), (25, .d (.i .i64 (x5.length : Int))), (26, .d (.i .i64 (y6 : Int)))], [.box [.d (.sl 6 (ePackages a0_0))], .box [.d (.s a1_0), .d (.i .i64 a1_1_0), .d (.s a1_1_1), .d (.sl 3 (eTypes a1_1_2))], .box [.fn 53 [.ptr 0 0]]], Tryz.f14.ntmps⟩) (fun y6 => b_iGIK_l1 (TProgram.mk a0_0) (TBound.mk a1_0 (TType.mk a1_1_0 a1_1_1 a1_1_2)) (x5.drop y6)  = some r) (fun y6 => x5.length - y6) 0 ⟨rfl, ⟨⟨rfl, rfl⟩, ⟨rfl, rfl⟩, ⟨rfl, rfl⟩, ⟨rfl, rfl⟩, ⟨rfl, rfl⟩, ⟨rfl, rfl⟩, trivial⟩, ⟨[], rfl⟩, rfl⟩ h ?_
    rintro y6 h
    refine goL ?_
    refine V_seq (V_cb (fun c8 => ?_) (fun c8 => ?_))
    · have hky62 := kltN c8
      obtain ⟨x9, hx9, hdx9⟩ := drop_at hky62
      rw [hdx9, b_iGIK_l1.eq_2] at h
      refine V_skip ?_
      show V _ _ _ _ _
      refine V_seq (V_block ?_)
      refine goL ?_
      refine VO_r (QR_ixn y6 (gStr hx9)) ?_
      refine goL ?_
      obtain ⟨x10, hx10, h⟩ := lt_x h
      obtain ⟨⟨x10_0_0, x10_0_1, x10_0_2⟩, x10_1, x10_2⟩ := x10
      have sx10 := w_iData (TProgram.mk a0_0) x9
      rw [hx10] at sx10
      refine VO_r (QR_call (sx10)) ?_
      refine goL ?_
      obtain ⟨b11, hb11, h⟩ := lt_x h
      refine VO_join ⟨[(2, .ptr 0 0), (3, .ptr 1 0), (5, .ptr 2 0), (24, .d (.sl 1 (eStrs x5))), (25, .d (.i .i64 (x5.length : Int))), (26, .d (.i .i64 (y6 : Int))), (44, .d (.b b11))], [.box [.d (.sl 6 (ePackages a0_0))], .box [.d (.s a1_0), .d (.i .i64 a1_1_0), .d (.s a1_1_1), .d (.sl 3 (eTypes a1_1_2))], .box [.fn 53 [.ptr 0 0]], .box [.d (.s x10_0_0), .d (.sl 1 (eStrs x10_0_1)), .d (.sl 2 (eConstructors x10_0_2))]], Tryz.f14.ntmps⟩ ?_ ?_
      · refine VO_case 39 (fun c12 => ?_) (fun c12 => ?_)
        · replace hb11 := cnd_t c12 hb11
          refine goL ?_
          refine VO_b ?_
          obtain ⟨x13, hx13, hb11⟩ := lt_x hb11
          have sx13 := w_isTrait (TProgram.mk a0_0) x9
          rw [hx13] at sx13
          refine VO_cG [0] sx13 ?_
          rintro _ _ ⟨rfl, rfl⟩
          show VO _ _ _ _ ⟨(_, .d (.b x13)) :: _, [.box [.d (.sl 6 (ePackages a0_0))], .box [.d (.s a1_0), .d (.i .i64 a1_1_0), .d (.s a1_1_1), .d (.sl 3 (eTypes a1_1_2))], .box [.fn 53 [.ptr 0 0]], .box [.d (.s x10_0_0), .d (.sl 1 (eStrs x10_0_1)), .d (.sl 2 (eConstructors x10_0_2))]], _⟩ _
          refine goL ?_
          cases hb11
          exact ⟨rfl, ⟨⟨rfl, rfl⟩, ⟨rfl, rfl⟩, ⟨rfl, rfl⟩, ⟨rfl, rfl⟩, ⟨rfl, rfl⟩, ⟨rfl, rfl⟩, ⟨rfl, rfl⟩, trivial⟩, ⟨[], rfl⟩, rfl⟩
        · replace hb11 := cnd_f c12 hb11
          refine goL ?_
          cases hb11
          exact ⟨rfl, ⟨⟨rfl, rfl⟩, ⟨rfl, rfl⟩, ⟨rfl, rfl⟩, ⟨rfl, rfl⟩, ⟨rfl, rfl⟩, ⟨rfl, rfl⟩, ⟨rfl, rfl⟩, trivial⟩, ⟨[], rfl⟩, rfl⟩
      refine goL ?_
      refine V_cb (fun c14 => ?_) (fun c14 => ?_)
      · replace h := cnd_t c14 h
        refine goL ?_
        refine V_ret ?_
        replace h := Option.some.inj h
        subst h
        exact R_rP
      · replace h := cnd_f c14 h
        refine V_skip ?_
        show V _ _ _ _ _
        refine goL ?_
        refine VO_r (QR_inc y6 (by omega)) ?_
        refine goL ?_
        exact ⟨(y6 + 1), h, by omega, ⟨rfl, ⟨⟨rfl, rfl⟩, ⟨rfl, rfl⟩, ⟨rfl, rfl⟩, ⟨rfl, rfl⟩, ⟨rfl, rfl⟩, ⟨rfl, rfl⟩, trivial⟩, ⟨_, rfl⟩, rfl⟩⟩
    · have hky62 := kgeN c8
      rw [drop_end hky62, b_iGIK_l1.eq_1] at h
      refine V_exit ?_
      show V _ _ _ _ _
      refine goL ?_
      obtain ⟨x15, hx15, h⟩ := bnd_s h
      refine VO_r (QR_call (w_iProjIn (TType.mk a1_1_0 a1_1_1 a1_1_2) hx15)) ?_
      refine VO_r (QR_fn) ?_
      obtain ⟨x16, hx16, h⟩ := lt_x h
      have sx16 := w_ContainsNT (TProgram.mk a0_0) x15
      rw [hx16] at sx16
      refine VO_cG [2, 0] sx16 ?_
      rintro _ _ ⟨rfl, rfl⟩
      show VO _ _ _ _ ⟨(_, .d (.b x16)) :: _, [.box [.d (.sl 6 (ePackages a0_0))], .box [.d (.s a1_0), .d (.i .i64 a1_1_0), .d (.s a1_1_1), .d (.sl 3 (eTypes a1_1_2))], .box [.fn 53 [.ptr 0 0]]], _⟩ _
      refine goL ?_
      refine V_ret ?_
      replace h := Option.some.inj h
      subst h
      exact R_rP
def b_sGIK_l2 (a0 : TProgram) (a1 : TBound) : List TBound → Bool → Option (Bool)
  | [], y15 => bnd ((cnd y15 (bnd (b_sValidBound a1) fun x24 =>
(some x24)) ((some false)))) fun b22 =>
(some b22)
  | x18 :: xs, y15 => lt_ (b_sTraitAt a0 x18.trait) fun x19 =>
lt_ ((cnd y15 (x19.2.2) (false))) fun b20 =>
b_sGIK_l2 a0 a1 xs b20
def b_sGIK_l1 (a0 : TProgram) (a1 : TBound) : List (List UInt8) → Bool → Option (Bool)
  | [], y3 => bnd (b_sProjIn a1.type_) fun x13 =>
b_sGIK_l2 a0 a1 x13 y3
  | x7 :: xs, y3 => lt_ (b_sDataAt a0 x7) fun x8 =>
lt_ (b_sTraitAt a0 x7) fun x9 =>
lt_ ((cnd y3 ((cnd x8.2.2 (true) (x9.2.2))) (false))) fun b10 =>
b_sGIK_l1 a0 a1 xs b10
def b_sGIK (a0 : TProgram) (a1 : TBound) : Option (Bool) :=
lt_ (b_sTraitAt a0 a1.trait) fun x1 =>
bnd (b_sTypeNames a1.type_) fun x2 =>
b_sGIK_l1 a0 a1 x2 x1.2.2
set_option maxHeartbeats 4000000 in
theorem w_sGIK (a0 : TProgram) (a1 : TBound) {r : Bool} (h : b_sGIK a0 a1 = some r) : SpecP Tryz.prog 11 [.d (eProgram a0), .d (eBound a1)] [.b r] := by
  obtain ⟨a0_0⟩ := a0
  obtain ⟨a1_0, ⟨a1_1_0, a1_1_1, a1_1_2⟩⟩ := a1
  unfold b_sGIK at h
  refine SpecP_intro Tryz.func11 rfl (by kernel_rfl) rfl fun A _ => ?_
  refine goL ?_
  obtain ⟨x1, hx1, h⟩ := lt_x h
  obtain ⟨⟨x1_0_0, x1_0_1, x1_0_2, x1_0_3, x1_0_4⟩, x1_1, x1_2⟩ := x1
  have sx1 := w_sTraitAt (TProgram.mk a0_0) a1_0
  rw [hx1] at sx1
  refine VO_r (QR_call (sx1)) ?_
  refine goL ?_
  obtain ⟨x2, hx2, h⟩ := bnd_s h
  refine VO_r (QR_call (w_sTypeNames (TType.mk a1_1_0 a1_1_1 a1_1_2) hx2)) ?_
  refine goL ?_
  refine V_block ?_
  show V _ _ _ _ _
  refine V_bd 8 (fun z5 => ?_)
  refine V_loop2 (fun (y4 : Nat) (y3 : Bool) => ⟨[(2, .ptr 0 0), (3, .ptr 1 0), (7, .d (.b y3)), (8, .d (.sl 1 (eStrs x2))), (9, .d (.i .i64 (y4 : Int)))], [.box [.d (.sl 6 (ePackages a0_0))], .box [.d (.s a1_0), .d (.i .i64 a1_1_0), .d (.s a1_1_1), .d (.sl 3 (eTypes a1_1_2))], .box [.d (.s x1_0_0), .d (.sl 1 (eStrs x1_0_1)), .d (.b x1_0_2), .d (.b x1_0_3), .d (.sl 16 (eSignatures x1_0_4))]], Tryz.f11.ntmps⟩) (fun y4 y3 => b_sGIK_l1 (TProgram.mk a0_0) (TBound.mk a1_0 (TType.mk a1_1_0 a1_1_1 a1_1_2)) (x2.drop y4) y3 = some r) (fun y4 y3 => x2.length - y4) 0 x1_2 ⟨rfl, ⟨⟨rfl, rfl⟩, ⟨rfl, rfl⟩, ⟨rfl, rfl⟩, ⟨rfl, rfl⟩, ⟨rfl, rfl⟩, trivial⟩, ⟨[], rfl⟩, rfl⟩ h ?_
  rintro y4 y3 h
  refine goL ?_
  refine V_cb (fun c6 => ?_) (fun c6 => ?_)
  · have hky42 := kltN c6
    obtain ⟨x7, hx7, hdx7⟩ := drop_at hky42
    rw [hdx7, b_sGIK_l1.eq_2] at h
    refine V_skip ?_
    show V _ _ _ _ _
    refine V_seq (V_block ?_)
    refine V_seq_drawX (P := Tryz.prog) Mix.h [(0, true), (1, true), (2, true), (3, true), (4, true), (5, true), (6, true), (7, true), (8, true), (9, true), (10, false), (11, false), (12, true), (13, true)] (by kernel_rfl) ?_
    refine goY ?_
    refine VY_ri rfl (QR_ixn y4 (gStr hx7)) ?_
    refine goY ?_
    obtain ⟨x8, hx8, h⟩ := lt_x h
    obtain ⟨⟨x8_0_0, x8_0_1, x8_0_2⟩, x8_1, x8_2⟩ := x8
    have sx8 := w_sDataAt (TProgram.mk a0_0) x7
    rw [hx8] at sx8
    refine VY_ri rfl (QR_call (sx8)) ?_
    refine goY ?_
    refine VY_nil ?_
    refine goNL ?_
    refine V_seq_drawX (P := Tryz.prog) Mix.h [(0, true), (1, true), (2, true), (3, true), (4, true), (5, true), (6, true), (7, true), (8, true), (9, true), (10, false), (11, false), (12, true), (13, true)] (by kernel_rfl) ?_
    refine goY ?_
    refine VY_ri rfl (QR_ixn y4 (gStr hx7)) ?_
    refine goY ?_
    obtain ⟨x9, hx9, h⟩ := lt_x h
    obtain ⟨⟨x9_0_0, x9_0_1, x9_0_2, x9_0_3, x9_0_4⟩, x9_1, x9_2⟩ := x9
    have sx9 := w_sTraitAt (TProgram.mk a0_0) x7
    rw [hx9] at sx9
    refine VY_ri rfl (QR_call (sx9)) ?_
    refine goY ?_
    refine VY_nil ?_
    refine goL ?_
    obtain ⟨b10, hb10, h⟩ := lt_x h
    refine VO_join ⟨[(2, .ptr 0 0), (3, .ptr 1 0), (8, .d (.sl 1 (eStrs x2))), (9, .d (.i .i64 (y4 : Int))), (7, .d (.b b10))], [.box [.d (.sl 6 (ePackages a0_0))], .box [.d (.s a1_0), .d (.i .i64 a1_1_0), .d (.s a1_1_1), .d (.sl 3 (eTypes a1_1_2))], .box [.d (.s x1_0_0), .d (.sl 1 (eStrs x1_0_1)), .d (.b x1_0_2), .d (.b x1_0_3), .d (.sl 16 (eSignatures x1_0_4))], .box [.d (.s x8_0_0), .d (.sl 1 (eStrs x8_0_1)), .d (.sl 2 (eConstructors x8_0_2))], .box [.d (.s x9_0_0), .d (.sl 1 (eStrs x9_0_1)), .d (.b x9_0_2), .d (.b x9_0_3), .d (.sl 16 (eSignatures x9_0_4))]], Tryz.f11.ntmps⟩ ?_ ?_
    · refine VO_case 59 (fun c11 => ?_) (fun c11 => ?_)
      · replace hb10 := cnd_t c11 hb10
        refine goL ?_
        refine VO_case 61 (fun c12 => ?_) (fun c12 => ?_)
        · replace hb10 := cnd_t c12 hb10
          refine goL ?_
          cases hb10
          exact ⟨rfl, ⟨⟨rfl, rfl⟩, ⟨rfl, rfl⟩, ⟨rfl, rfl⟩, ⟨rfl, rfl⟩, ⟨rfl, rfl⟩, trivial⟩, ⟨[], rfl⟩, rfl⟩
        · replace hb10 := cnd_f c12 hb10
          refine goL ?_
          cases hb10
          exact ⟨rfl, ⟨⟨rfl, rfl⟩, ⟨rfl, rfl⟩, ⟨rfl, rfl⟩, ⟨rfl, rfl⟩, ⟨rfl, rfl⟩, trivial⟩, ⟨[], rfl⟩, rfl⟩
      · replace hb10 := cnd_f c11 hb10
        refine goL ?_
        cases hb10
        exact ⟨rfl, ⟨⟨rfl, rfl⟩, ⟨rfl, rfl⟩, ⟨rfl, rfl⟩, ⟨rfl, rfl⟩, ⟨rfl, rfl⟩, trivial⟩, ⟨[], rfl⟩, rfl⟩
    refine goL ?_
    refine VO_r (QR_inc y4 (by omega)) ?_
    refine goL ?_
    exact ⟨(y4 + 1), b10, h, by omega, ⟨rfl, ⟨⟨rfl, rfl⟩, ⟨rfl, rfl⟩, ⟨rfl, rfl⟩, ⟨rfl, rfl⟩, ⟨rfl, rfl⟩, trivial⟩, ⟨_, rfl⟩, rfl⟩⟩
  · have hky42 := kgeN c6
    rw [drop_end hky42, b_sGIK_l1.eq_1] at h
    refine V_exit ?_
    show V _ _ _ _ _
    refine goL ?_
    obtain ⟨x13, hx13, h⟩ := bnd_s h
    refine VO_r (QR_call (w_sProjIn (TType.mk a1_1_0 a1_1_1 a1_1_2) hx13)) ?_
    refine goL ?_
    refine V_block ?_
    show V _ _ _ _ _
    refine V_bd 16 (fun z16 => ?_)
    refine V_loop2 (fun (y14 : Nat) (y15 : Bool) => ⟨[(2, .ptr 0 0), (3, .ptr 1 0), (7, .d (.b y15)), (16, .d (.sl 4 (eBounds x13))), (17, .d (.i .i64 (y14 : Int)))], [.box [.d (.sl 6 (ePackages a0_0))], .box [.d (.s a1_0), .d (.i .i64 a1_1_0), .d (.s a1_1_1), .d (.sl 3 (eTypes a1_1_2))], .box [.d (.s x1_0_0), .d (.sl 1 (eStrs x1_0_1)), .d (.b x1_0_2), .d (.b x1_0_3), .d (.sl 16 (eSignatures x1_0_4))]], Tryz.f11.ntmps⟩) (fun y14 y15 => b_sGIK_l2 (TProgram.mk a0_0) (TBound.mk a1_0 (TType.mk a1_1_0 a1_1_1 a1_1_2)) (x13.drop y14) y15 = some r) (fun y14 y15 => x13.length - y14) 0 y3 ⟨rfl, ⟨⟨rfl, rfl⟩, ⟨rfl, rfl⟩, ⟨rfl, rfl⟩, ⟨rfl, rfl⟩, ⟨rfl, rfl⟩, trivial⟩, ⟨[], rfl⟩, rfl⟩ h ?_
    rintro y14 y15 h
    refine goL ?_
    refine V_cb (fun c17 => ?_) (fun c17 => ?_)
    · have hky142 := kltN c17
      obtain ⟨x18, hx18, hdx18⟩ := drop_at hky142
      rw [hdx18, b_sGIK_l2.eq_2] at h
      obtain ⟨x18_0, ⟨x18_1_0, x18_1_1, x18_1_2⟩⟩ := x18
      refine V_skip ?_
      show V _ _ _ _ _
      refine V_seq (V_block ?_)
      refine V_seq_drawX (P := Tryz.prog) Mix.h [(0, true), (1, true), (2, true), (3, true), (4, true), (5, true), (6, true), (7, true), (8, true), (9, true), (10, true), (11, false), (12, false), (13, true), (14, true)] (by kernel_rfl) ?_
      refine goY ?_
      refine VY_ri rfl (QR_ixn y14 (gBound hx18)) ?_
      refine goY ?_
      obtain ⟨x19, hx19, h⟩ := lt_x h
      obtain ⟨⟨x19_0_0, x19_0_1, x19_0_2, x19_0_3, x19_0_4⟩, x19_1, x19_2⟩ := x19
      have sx19 := w_sTraitAt (TProgram.mk a0_0) x18_0
      rw [hx19] at sx19
      refine VY_ri rfl (QR_call (sx19)) ?_
      refine goY ?_
      refine VY_nil ?_
      refine goL ?_
      obtain ⟨b20, hb20, h⟩ := lt_x h
      refine VO_join ⟨[(2, .ptr 0 0), (3, .ptr 1 0), (16, .d (.sl 4 (eBounds x13))), (17, .d (.i .i64 (y14 : Int))), (7, .d (.b b20))], [.box [.d (.sl 6 (ePackages a0_0))], .box [.d (.s a1_0), .d (.i .i64 a1_1_0), .d (.s a1_1_1), .d (.sl 3 (eTypes a1_1_2))], .box [.d (.s x1_0_0), .d (.sl 1 (eStrs x1_0_1)), .d (.b x1_0_2), .d (.b x1_0_3), .d (.sl 16 (eSignatures x1_0_4))], .box [.d (.s x19_0_0), .d (.sl 1 (eStrs x19_0_1)), .d (.b x19_0_2), .d (.b x19_0_3), .d (.sl 16 (eSignatures x19_0_4))]], Tryz.f11.ntmps⟩ ?_ ?_
      · refine VO_case 86 (fun c21 => ?_) (fun c21 => ?_)
        · replace hb20 := cnd_t c21 hb20
          refine goL ?_
          cases hb20
          exact ⟨rfl, ⟨⟨rfl, rfl⟩, ⟨rfl, rfl⟩, ⟨rfl, rfl⟩, ⟨rfl, rfl⟩, ⟨rfl, rfl⟩, trivial⟩, ⟨[], rfl⟩, rfl⟩
        · replace hb20 := cnd_f c21 hb20
          refine goL ?_
          cases hb20
          exact ⟨rfl, ⟨⟨rfl, rfl⟩, ⟨rfl, rfl⟩, ⟨rfl, rfl⟩, ⟨rfl, rfl⟩, ⟨rfl, rfl⟩, trivial⟩, ⟨[], rfl⟩, rfl⟩
      refine goL ?_
      refine VO_r (QR_inc y14 (by omega)) ?_
      refine goL ?_
      exact ⟨(y14 + 1), b20, h, by omega, ⟨rfl, ⟨⟨rfl, rfl⟩, ⟨rfl, rfl⟩, ⟨rfl, rfl⟩, ⟨rfl, rfl⟩, ⟨rfl, rfl⟩, trivial⟩, ⟨_, rfl⟩, rfl⟩⟩
    · have hky142 := kgeN c17
      rw [drop_end hky142, b_sGIK_l2.eq_1] at h
      refine V_exit ?_
      show V _ _ _ _ _
      refine goL ?_
      obtain ⟨b22, hb22, h⟩ := bnd_s h
      refine VO_join ⟨[(4, .d (.b b22))], [.box [.d (.sl 6 (ePackages a0_0))], .box [.d (.s a1_0), .d (.i .i64 a1_1_0), .d (.s a1_1_1), .d (.sl 3 (eTypes a1_1_2))], .box [.d (.s x1_0_0), .d (.sl 1 (eStrs x1_0_1)), .d (.b x1_0_2), .d (.b x1_0_3), .d (.sl 16 (eSignatures x1_0_4))]], Tryz.f11.ntmps⟩ ?_ ?_
      · refine VO_case 90 (fun c23 => ?_) (fun c23 => ?_)
        · replace hb22 := cnd_t c23 hb22
          refine goL ?_
          refine VO_b ?_
          obtain ⟨x24, hx24, hb22⟩ := bnd_s hb22
          refine VO_r (QR_call (w_sValidBound (TBound.mk a1_0 (TType.mk a1_1_0 a1_1_1 a1_1_2)) hx24)) ?_
          refine goL ?_
          cases hb22
          exact ⟨rfl, ⟨⟨rfl, rfl⟩, trivial⟩, ⟨[], rfl⟩, rfl⟩
        · replace hb22 := cnd_f c23 hb22
          refine goL ?_
          cases hb22
          exact ⟨rfl, ⟨⟨rfl, rfl⟩, trivial⟩, ⟨[], rfl⟩, rfl⟩
      refine goL ?_
      refine V_ret ?_
      replace h := Option.some.inj h
      subst h
      exact R_rP
/-! ### GoalIsKnown, by hand -/
theorem traitAt_l2_eq (s : List UInt8) (k : Nat) (e : TTrait × Int × Bool) : ∀ (l : List TTrait), b_sTraitAt_l2 s k e l = b_iTrait_l2 s k e l
  | [] => rfl
  | x :: l => by simp only [b_sTraitAt_l2, b_iTrait_l2, traitAt_l2_eq s k e l]
theorem traitAt_l1_eq (s : List UInt8) : ∀ (l : List TPackage) (k : Nat), b_sTraitAt_l1 s l k = b_iTrait_l1 s l k
  | [], k => rfl
  | x :: l, k => by simp only [b_sTraitAt_l1, b_iTrait_l1, traitAt_l1_eq s l (k + 1), traitAt_l2_eq]
theorem traitAt_eq (w : TProgram) (s : List UInt8) : b_sTraitAt w s = b_iTrait w s := traitAt_l1_eq s w.packages 0
theorem dataAt_l2_eq (s : List UInt8) (k : Nat) (e : TDataType × Int × Bool) : ∀ (l : List TDataType), b_sDataAt_l2 s k e l = b_iData_l2 s k e l
  | [] => rfl
  | x :: l => by simp only [b_sDataAt_l2, b_iData_l2, dataAt_l2_eq s k e l]
theorem dataAt_l1_eq (s : List UInt8) : ∀ (l : List TPackage) (k : Nat), b_sDataAt_l1 s l k = b_iData_l1 s l k
  | [], k => rfl
  | x :: l, k => by simp only [b_sDataAt_l1, b_iData_l1, dataAt_l1_eq s l (k + 1), dataAt_l2_eq]
theorem dataAt_eq (w : TProgram) (s : List UInt8) : b_sDataAt w s = b_iData w s := dataAt_l1_eq s w.packages 0
def trk (w : TProgram) (s : List UInt8) : Bool := (b_iTrait w s).2.2
def dak (w : TProgram) (s : List UInt8) : Bool := (b_iData w s).2.2
theorem IndexNT_iff (w : TProgram) : ∀ (l : List TBound) (k : Nat), 0 ≤ b_IndexNT_l1 w l k ↔ (l.any fun b => !trk w b.trait) = true
  | [], k => by simp [b_IndexNT_l1]
  | x :: l, k => by
    have ih := IndexNT_iff w l (k + 1)
    simp only [b_IndexNT_l1, lt_, b_notTrait, b_isTrait, List.any_cons]
    show 0 ≤ cnd (!trk w x.trait) _ _ ↔ (!trk w x.trait || _) = true
    cases trk w x.trait with
    | true => simpa only [Bool.not_true, cnd_false, Bool.false_or] using ih
    | false => simp only [Bool.not_false, cnd_true, Bool.true_or]; simp
theorem ContainsNT_eq (w : TProgram) (l : List TBound) : b_ContainsNT w l = !(l.all fun b => trk w b.trait) := by
  have h := IndexNT_iff w l 0
  have e : ∀ l : List TBound, (!(l.all fun b => trk w b.trait)) = l.any fun b => !trk w b.trait := by
    intro l
    induction l with
    | nil => rfl
    | cons b l ih => simp only [List.all_cons, List.any_cons, Bool.not_and, ih]
  rw [e]
  unfold b_ContainsNT b_IndexNT
  exact Bool.eq_iff_iff.2 (by simp only [lt_]; rw [decide_eq_true_iff]; exact h)
mutual
theorem tsz_small : ∀ (t : TType), tnd t ≤ 4294967297 → tsz t = tnd t
  | ⟨k, n, ts⟩, h => by
    simp only [tnd] at h
    simp only [tsz, tnd]
    rw [tszs_small ts 1 (by omega) (by omega)]
    omega
theorem tszs_small : ∀ (ts : List TType) (y : Int), 0 ≤ y → y + tnds ts ≤ 4294967297 → tszs ts y = y + tnds ts
  | [], y, _, _ => by simp [tszs, tnds]
  | a :: ts, y, h0, h => by
    simp only [tnds] at h
    simp only [tszs, tnds]
    rw [tsz_small a (by omega), wrap_small (by omega) (by omega), tszs_small ts _ (by omega) (by omega)]
    omega
end
theorem validType_eq (t : TType) (h : tnd t ≤ 4294967296) : b_sValidType t = some (b_iValidType t) := by
  unfold b_sValidType b_iValidType
  rw [gd_eq ⟨h, by decide, by decide⟩]
  have e : decide (l4left t 60 ≥ 0) = decide (tsz t ≤ 60) := by
    rw [tsz_small t (by omega)]
    unfold l4left lfts
    rw [if_pos (by decide)]
    by_cases h1 : tnd t ≤ 60
    · rw [decide_eq_true (by omega), decide_eq_true (by omega)]
    · rw [decide_eq_false (by omega), decide_eq_false (by omega)]
  simp only [lt_, e]
  generalize decide (tsz t ≤ 60) = p1
  generalize decide (tdp t ≤ 6) = p2
  generalize frm t = p3
  cases p1 <;> cases p2 <;> cases p3 <;> rfl
theorem validBound_eq (b : TBound) (h : tnd b.type_ ≤ 4294967296) : b_sValidBound b = some (b_iValidBound b) := by
  unfold b_sValidBound b_iValidBound
  rw [validName_eq, validType_eq _ h]
  simp only [lt_, bnd]
  cases b_iValidName b.trait <;> rfl
def gik (w : TProgram) (g : TBound) : Bool := b_iValidBound g && (trk w g.trait && (((nmsT g.type_ []).all fun n => dak w n || trk w n) && (prjT g.type_ []).all fun b => trk w b.trait))
section
variable (w : TProgram) (g : TBound) (hs : tnd g.type_ ≤ 4294967296) (hk : tok g.type_)
include hs hk
theorem iGIK_l1_eq : ∀ (xs : List (List UInt8)), b_iGIK_l1 w g xs = some ((xs.all fun n => dak w n || trk w n) && (prjT g.type_ []).all fun b => trk w b.trait)
  | [] => by
    simp only [b_iGIK_l1, b_iProjIn]
    rw [gd_eq ⟨by simpa [lenB] using hs, hk⟩]
    simp only [lt_, bnd, ContainsNT_eq, Bool.not_not, List.all_nil, Bool.true_and]
  | x :: xs => by
    have ih := iGIK_l1_eq xs
    simp only [b_iGIK_l1, lt_, ih, List.all_cons, b_isTrait]
    show cnd (cnd (!dak w x) (!trk w x) false) _ _ = some (((dak w x || trk w x) && _) && _)
    cases dak w x <;> cases trk w x <;> simp [cnd]
theorem iGIK_eq : b_iGIK w g = some (gik w g) := by
  unfold b_iGIK gik
  have e : b_iTypeNames g.type_ = some (nmsT g.type_ []) := by
    unfold b_iTypeNames
    rw [gd_eq (by simpa [lenS] using hs)]
    rfl
  rw [e]
  simp only [lt_, bnd, iGIK_l1_eq w g hs hk, b_isTrait]
  show cnd (cnd (!b_iValidBound g) true (!trk w g.trait)) _ _ = _
  cases b_iValidBound g <;> cases trk w g.trait <;> simp [cnd]
theorem sGIK_l2_eq : ∀ (xs : List TBound) (y : Bool), b_sGIK_l2 w g xs y = some ((y && xs.all fun b => trk w b.trait) && b_iValidBound g)
  | [], y => by
    simp only [b_sGIK_l2, validBound_eq g hs, bnd]
    cases y <;> simp [cnd]
  | x :: xs, y => by
    simp only [b_sGIK_l2, lt_, traitAt_eq]
    rw [sGIK_l2_eq xs]
    simp only [List.all_cons]
    show some ((cnd y (trk w x.trait) false && _) && _) = _
    generalize (xs.all fun b => trk w b.trait) = q
    generalize trk w x.trait = p
    generalize b_iValidBound g = r
    cases y <;> cases p <;> cases q <;> cases r <;> rfl
theorem sGIK_l1_eq : ∀ (xs : List (List UInt8)) (y : Bool), b_sGIK_l1 w g xs y = some (((y && xs.all fun n => dak w n || trk w n) && (prjT g.type_ []).all fun b => trk w b.trait) && b_iValidBound g)
  | [], y => by
    simp only [b_sGIK_l1, b_sProjIn]
    rw [gd_eq ⟨by simpa [lenB] using hs, hk⟩]
    simp only [lt_, bnd, sGIK_l2_eq w g hs hk, List.all_nil, Bool.and_true]
  | x :: xs, y => by
    simp only [b_sGIK_l1, lt_, traitAt_eq, dataAt_eq]
    rw [sGIK_l1_eq xs]
    simp only [List.all_cons]
    show some (((cnd y (cnd (dak w x) true (trk w x)) false && _) && _) && _) = _
    generalize (xs.all fun n => dak w n || trk w n) = q
    generalize ((prjT g.type_ []).all fun b => trk w b.trait) = s
    generalize dak w x = p
    generalize trk w x = o
    generalize b_iValidBound g = r
    cases y <;> cases p <;> cases o <;> cases q <;> cases s <;> cases r <;> rfl
theorem sGIK_eq : b_sGIK w g = some (gik w g) := by
  unfold b_sGIK gik
  have e : b_sTypeNames g.type_ = some (nmsT g.type_ []) := by
    unfold b_sTypeNames
    rw [gd_eq (by simpa [lenS] using hs)]
    rfl
  rw [e]
  simp only [lt_, bnd, sGIK_l1_eq w g hs hk, traitAt_eq]
  show some (((trk w g.trait && _) && _) && _) = _
  generalize b_iValidBound g = p1
  generalize trk w g.trait = p2
  generalize ((nmsT g.type_ []).all fun n => dak w n || trk w n) = p3
  generalize ((prjT g.type_ []).all fun b => trk w b.trait) = p4
  cases p1 <;> cases p2 <;> cases p3 <;> cases p4 <;> rfl
end
mutual
theorem tnd_W : ∀ (t : TType), tnd t ≤ 1 + W (eType t)
  | ⟨k, n, ts⟩ => by
    simp only [tnd, eType, W, Ws]
    have h1 := tnds_W ts
    have h2 : (eTypes ts).length = ts.length := Enc.len ts
    omega
theorem tnds_W : ∀ (ts : List TType), tnds ts ≤ ts.length + Ws (eTypes ts)
  | [] => by simp [tnds]
  | a :: ts => by
    simp only [tnds, eTypes, Ws, List.length_cons]
    have h1 := tnd_W a
    have h2 := tnds_W ts
    omega
end
mutual
theorem tok_W : ∀ (t : TType), W (eType t) ≤ 4294967296 → tok t
  | ⟨k, n, ts⟩, h => by
    simp only [eType, W, Ws] at h
    have h2 : (eTypes ts).length = ts.length := Enc.len ts
    simp only [tok]
    exact ⟨by omega, tall_W ts (by omega)⟩
theorem tall_W : ∀ (ts : List TType), Ws (eTypes ts) ≤ 4294967296 → tall ts
  | [], _ => by simp [tall]
  | a :: ts, h => by
    simp only [eTypes, Ws] at h
    simp only [tall]
    exact ⟨tok_W a (by omega), tall_W ts (by omega)⟩
end
theorem bound_W (g : TBound) (h : W (eBound g) ≤ 1048576) : tnd g.type_ ≤ 4294967296 ∧ tok g.type_ := by
  obtain ⟨s, t⟩ := g
  simp only [eBound, W, Ws] at h
  have h1 := tnd_W t
  exact ⟨by simp only []; omega, tok_W t (by omega)⟩
theorem bothGIK {u v : U} (h : wt (.st 15) u) (h2 : wt (.st 9) v) : ∃ c0 : Bool, (W u ≤ 1048576 → W v ≤ 1048576 → SpecP Tryz.prog 11 [.d u, .d v] [.b c0]) ∧ (W u ≤ 1048576 → W v ≤ 1048576 → SpecP Tryz.prog 14 [.d u, .d v] [.b c0]) := by
  obtain ⟨w, rfl⟩ := ofProgram u h
  obtain ⟨g, rfl⟩ := ofBound v h2
  refine ⟨gik w g, fun _ hw => ?_, fun _ hw => ?_⟩
  · obtain ⟨k1, k2⟩ := bound_W g hw
    exact w_sGIK w g (sGIK_eq w g k1 k2)
  · obtain ⟨k1, k2⟩ := bound_W g hw
    exact w_iGIK w g (iGIK_eq w g k1 k2)

end Go.Proofs.YtihihldpcgiibaaGreat
