/- Pt4. Written by a program of mine (aw.py). -/
import Derived.Test.YtgmlpaaklnkghaaGreatEng39
import Derived.Test.YtgmlpaaklnkghaaGreatPt3
import Derived.Test.YtgmlpaaklnkghaaGreatPt2
set_option linter.unusedVariables false
set_option linter.unusedSimpArgs false
set_option linter.unusedSectionVars false
namespace Go.Proofs.YtgmlpaaklnkghaaGreat
open Go Go.Eng
attribute [local irreducible] V VO VQ VY Quiet QR SpecP SpecO Rng PostP PostO PostG
def b_iWrite_l1 (rec_iWrite : (List UInt8) → TSExpr → Option (List UInt8)) : List TSExpr → Nat → (List UInt8) → Option (List UInt8)
  | [], y6, y4 => gd (y4.length + 1 ≤ 4294967296) (
(some (y4 ++ [(41 : UInt8)])))
  | x9 :: xs, y6, y4 => (cnd (decide ((y6 : Int) > 0)) (
gd (y4.length + 1 ≤ 4294967296) (
bnd (rec_iWrite (y4 ++ [(32 : UInt8)]) x9) fun x12 =>
b_iWrite_l1 rec_iWrite xs (y6 + 1) x12)) (
bnd (rec_iWrite y4 x9) fun x13 =>
b_iWrite_l1 rec_iWrite xs (y6 + 1) x13))
def b_iWrite (rec_iWrite : (List UInt8) → TSExpr → Option (List UInt8)) (b : List UInt8) (x : TSExpr) : Option (List UInt8) :=
(cnd (!(x.atom == [])) (
gd (b.length + x.atom.length ≤ 4294967296) (
(some (b ++ x.atom)))) (
gd (b.length + 1 ≤ 4294967296) (
b_iWrite_l1 rec_iWrite x.list 0 (b ++ [(40 : UInt8)]))))
set_option maxHeartbeats 4000000 in
theorem w_iWrite {rec_iWrite : (List UInt8) → TSExpr → Option (List UInt8)} (hrec_iWrite : ∀ (x0 : List UInt8) (x1 : TSExpr) {r : List UInt8}, rec_iWrite x0 x1 = some r → Go.Eng.Spec Tryz.prog 47 [.ptr 0 0, .d (eSExpr x1)] [.bld 5 79 x0] (fun sv Lo => sv = .tup [] ∧ Lo = [.bld 5 79 r])) (b : List UInt8) (x : TSExpr) {r : List UInt8} (h : b_iWrite rec_iWrite b x = some r) : Go.Eng.Spec Tryz.prog 47 [.ptr 0 0, .d (eSExpr x)] [.bld 5 79 b] (fun sv Lo => sv = .tup [] ∧ Lo = [.bld 5 79 r]) := by
  obtain ⟨x_0, x_1⟩ := x
  unfold b_iWrite at h
  refine Spec_intro 1 Tryz.func47 rfl (by kernel_rfl) rfl rfl fun A _ => ?_
  refine goL ?_
  refine V_cb (fun c1 => ?_) (fun c1 => ?_)
  · replace h := cnd_t c1 h
    refine goL ?_
    obtain ⟨g2, h⟩ := gd_s h
    refine VO_cG [0] (t_WS b x_0 g2) ?_
    rintro _ _ ⟨rfl, rfl⟩
    show VO _ _ _ _ ⟨(_, .tup [.d (.i .i64 (x_0.length : Int)), .junk]) :: _, [.bld 5 79 (b ++ x_0), .box [.d (.s x_0), .d (.sl 2 (eSExprs x_1))]], _⟩ _
    refine goL ?_
    refine V_ret ?_
    replace h := Option.some.inj h
    subst h
    exact R_rH [] [.bld 5 79 (b ++ x_0)] ⟨rfl, rfl⟩
  · replace h := cnd_f c1 h
    refine V_skip ?_
    show V _ _ _ _ _
    refine goL ?_
    obtain ⟨g3, h⟩ := gd_s h
    refine VO_cG [0] (t_WB b 40 g3) ?_
    rintro _ _ ⟨rfl, rfl⟩
    show VO _ _ _ _ ⟨(_, .junk) :: _, [.bld 5 79 (b ++ [(40 : UInt8)]), .box [.d (.s x_0), .d (.sl 2 (eSExprs x_1))]], _⟩ _
    refine goL ?_
    refine V_block ?_
    show V _ _ _ _ _
    refine V_bd 16 (fun z7 => ?_)
    refine V_loop2 (fun (y6 : Nat) (y4 : List UInt8) => ⟨[(0, .ptr 0 0), (16, .d (.sl 2 (eSExprs x_1))), (17, .d (.i .i64 (x_1.length : Int))), (18, .d (.i .i64 (y6 : Int)))], [.bld 5 79 y4, .box [.d (.s x_0), .d (.sl 2 (eSExprs x_1))]], Tryz.f47.ntmps⟩) (fun y6 y4 => b_iWrite_l1 rec_iWrite (x_1.drop y6) y6 y4 = some r) (fun y6 y4 => x_1.length - y6) 0 (b ++ [(40 : UInt8)]) ⟨rfl, ⟨⟨rfl, rfl⟩, ⟨rfl, rfl⟩, ⟨rfl, rfl⟩, ⟨rfl, rfl⟩, trivial⟩, ⟨[], rfl⟩, rfl⟩ h ?_
    rintro y6 y4 h
    refine goL ?_
    refine V_seq (V_cb (fun c8 => ?_) (fun c8 => ?_))
    · have hky62 := kltN c8
      obtain ⟨x9, hx9, hdx9⟩ := drop_at hky62
      rw [hdx9, b_iWrite_l1.eq_2] at h
      obtain ⟨x9_0, x9_1⟩ := x9
      refine V_skip ?_
      show V _ _ _ _ _
      refine V_seq (V_block ?_)
      refine goL ?_
      refine VO_r (QR_ixn y6 (gSExpr hx9)) ?_
      refine goL ?_
      refine V_cb (fun c10 => ?_) (fun c10 => ?_)
      · replace h := cnd_t c10 h
        refine goL ?_
        obtain ⟨g11, h⟩ := gd_s h
        refine VO_cG [0] (t_WB y4 32 g11) ?_
        rintro _ _ ⟨rfl, rfl⟩
        show VO _ _ _ _ ⟨(_, .junk) :: _, [.bld 5 79 (y4 ++ [(32 : UInt8)]), .box [.d (.s x_0), .d (.sl 2 (eSExprs x_1))], .box [.d (.s x9_0), .d (.sl 2 (eSExprs x9_1))]], _⟩ _
        refine goL ?_
        obtain ⟨x12, hx12, h⟩ := bnd_s h
        refine VO_cG [0] (hrec_iWrite (y4 ++ [(32 : UInt8)]) (TSExpr.mk x9_0 x9_1) hx12) ?_
        rintro _ _ ⟨rfl, rfl⟩
        show VO _ _ _ _ ⟨(_, .tup []) :: _, [.bld 5 79 x12, .box [.d (.s x_0), .d (.sl 2 (eSExprs x_1))], .box [.d (.s x9_0), .d (.sl 2 (eSExprs x9_1))]], _⟩ _
        refine goL ?_
        refine VO_r (QR_inc y6 (by omega)) ?_
        refine goL ?_
        exact ⟨(y6 + 1), x12, h, by omega, ⟨rfl, ⟨⟨rfl, rfl⟩, ⟨rfl, rfl⟩, ⟨rfl, rfl⟩, ⟨rfl, rfl⟩, trivial⟩, ⟨_, rfl⟩, rfl⟩⟩
      · replace h := cnd_f c10 h
        refine V_skip ?_
        show V _ _ _ _ _
        refine goL ?_
        obtain ⟨x13, hx13, h⟩ := bnd_s h
        refine VO_cG [0] (hrec_iWrite y4 (TSExpr.mk x9_0 x9_1) hx13) ?_
        rintro _ _ ⟨rfl, rfl⟩
        show VO _ _ _ _ ⟨(_, .tup []) :: _, [.bld 5 79 x13, .box [.d (.s x_0), .d (.sl 2 (eSExprs x_1))], .box [.d (.s x9_0), .d (.sl 2 (eSExprs x9_1))]], _⟩ _
        refine goL ?_
        refine VO_r (QR_inc y6 (by omega)) ?_
        refine goL ?_
        exact ⟨(y6 + 1), x13, h, by omega, ⟨rfl, ⟨⟨rfl, rfl⟩, ⟨rfl, rfl⟩, ⟨rfl, rfl⟩, ⟨rfl, rfl⟩, trivial⟩, ⟨_, rfl⟩, rfl⟩⟩
    · have hky62 := kgeN c8
      rw [drop_end hky62, b_iWrite_l1.eq_1] at h
      refine V_exit ?_
      show V _ _ _ _ _
      refine goL ?_
      obtain ⟨g14, h⟩ := gd_s h
      refine VO_cG [0] (t_WB y4 41 g14) ?_
      rintro _ _ ⟨rfl, rfl⟩
      show VO _ _ _ _ ⟨(_, .junk) :: _, [.bld 5 79 (y4 ++ [(41 : UInt8)]), .box [.d (.s x_0), .d (.sl 2 (eSExprs x_1))]], _⟩ _
      refine goL ?_
      replace h := Option.some.inj h
      subst h
      exact N_rH [] [.bld 5 79 (y4 ++ [(41 : UInt8)])] ⟨rfl, rfl⟩
def m_iWrite : Nat → (List UInt8) → TSExpr → Option (List UInt8)
  | 0, _, _ => none
  | n + 1, x0, x1 => b_iWrite (m_iWrite n) x0 x1
theorem s_iWrite : ∀ (n : Nat) (x0 : List UInt8) (x1 : TSExpr) {r : List UInt8}, m_iWrite n x0 x1 = some r → Go.Eng.Spec Tryz.prog 47 [.ptr 0 0, .d (eSExpr x1)] [.bld 5 79 x0] (fun sv Lo => sv = .tup [] ∧ Lo = [.bld 5 79 r]) := by
  intro n
  induction n with
  | zero => intro x0 x1 r h; cases h
  | succ n ih => intro x0 x1 r h; exact w_iWrite ih x0 x1 h
def b_iFormatX (a0 : TSExpr) : Option (List UInt8) :=
bnd (b_iValidX a0) fun x1 =>
(cnd (!x1) (
(some [])) (
bnd (m_iWrite 5000 ([] : List UInt8) a0) fun x3 =>
gd (x3 ≠ [] ∧ x3.length ≤ 4294967296) (
(some x3))))
set_option maxHeartbeats 4000000 in
theorem w_iFormatX (a0 : TSExpr) {r : List UInt8} (h : b_iFormatX a0 = some r) : SpecP Tryz.prog 20 [.d (eSExpr a0)] [.s r] := by
  obtain ⟨a0_0, a0_1⟩ := a0
  unfold b_iFormatX at h
  refine SpecP_intro Tryz.func20 rfl (by kernel_rfl) rfl fun A _ => ?_
  refine goL ?_
  obtain ⟨x1, hx1, h⟩ := bnd_s h
  refine VO_r (QR_call (w_iValidX (TSExpr.mk a0_0 a0_1) hx1)) ?_
  refine goL ?_
  refine V_cb (fun c2 => ?_) (fun c2 => ?_)
  · replace h := cnd_t c2 h
    refine goL ?_
    refine V_ret ?_
    replace h := Option.some.inj h
    subst h
    exact R_rP
  · replace h := cnd_f c2 h
    refine V_skip ?_
    show V _ _ _ _ _
    refine goL ?_
    refine VO_bnew 5 bnew_run rfl rfl rfl rfl ?_
    refine goL ?_
    obtain ⟨x3, hx3, h⟩ := bnd_s h
    refine VO_cG [1] (s_iWrite 5000 ([] : List UInt8) (TSExpr.mk a0_0 a0_1) hx3) ?_
    rintro _ _ ⟨rfl, rfl⟩
    show VO _ _ _ _ ⟨(_, .tup []) :: _, [.box [.d (.s a0_0), .d (.sl 2 (eSExprs a0_1))], .bld 5 79 x3], _⟩ _
    refine goL ?_
    obtain ⟨g4, h⟩ := gd_s h
    refine VO_cG [1] (t_Str x3 g4) ?_
    rintro _ _ ⟨rfl, rfl⟩
    show VO _ _ _ _ ⟨(_, .d (.s x3)) :: _, [.box [.d (.s a0_0), .d (.sl 2 (eSExprs a0_1))], .dead 0], _⟩ _
    refine goL ?_
    refine V_ret ?_
    replace h := Option.some.inj h
    subst h
    exact R_rP
def b_sJoin_l1 (a1 : List UInt8) : List (List UInt8) → Nat → (List UInt8) → Option (List UInt8)
  | [], y3, y1 => (some y1)
  | x6 :: xs, y3, y1 => (cnd (decide ((y3 : Int) > 0)) (
gd (y1.length + a1.length ≤ 4294967296) (
gd ((y1 ++ a1).length + x6.length ≤ 4294967296) (
b_sJoin_l1 a1 xs (y3 + 1) ((y1 ++ a1) ++ x6)))) (
gd (y1.length + x6.length ≤ 4294967296) (
b_sJoin_l1 a1 xs (y3 + 1) (y1 ++ x6))))
def b_sJoin (a0 : List (List UInt8)) (a1 : List UInt8) : Option (List UInt8) :=
b_sJoin_l1 a1 a0 0 []
set_option maxHeartbeats 4000000 in
theorem w_sJoin (a0 : List (List UInt8)) (a1 : List UInt8) {r : List UInt8} (h : b_sJoin a0 a1 = some r) : SpecP Tryz.prog 91 [.d (.sl 1 (eStrs a0)), .d (.s a1)] [.s r] := by
  unfold b_sJoin at h
  refine SpecP_intro Tryz.func91 rfl (by kernel_rfl) rfl fun A _ => ?_
  refine goL ?_
  refine VO_l0 ?_
  refine goL ?_
  refine V_block ?_
  show V _ _ _ _ _
  refine V_bd 0 (fun z4 => ?_)
  refine V_loop3 (fun (y3 : Nat) (y1 : List UInt8) (v2 : Nat) => ⟨[(0, .d (.sl 1 (eStrs a0))), (1, .d (.s a1)), (5, .sl 0 v2), (6, .d (.i .i64 (y3 : Int)))], [.own 5 1 v2 (eBytes y1)], Tryz.f91.ntmps⟩) (fun y3 y1 v2 => b_sJoin_l1 a1 (a0.drop y3) y3 y1 = some r) (fun y3 y1 v2 => a0.length - y3) 0 [] 0 ⟨rfl, ⟨⟨rfl, rfl⟩, ⟨rfl, rfl⟩, ⟨rfl, rfl⟩, ⟨rfl, rfl⟩, trivial⟩, ⟨[], rfl⟩, rfl⟩ h ?_
  rintro y3 y1 v2 h
  refine goL ?_
  refine V_cb (fun c5 => ?_) (fun c5 => ?_)
  · have hky32 := kltN c5
    obtain ⟨x6, hx6, hdx6⟩ := drop_at hky32
    rw [hdx6, b_sJoin_l1.eq_2] at h
    refine V_skip ?_
    show V _ _ _ _ _
    refine V_seq (V_block ?_)
    refine goL ?_
    refine V_cb (fun c7 => ?_) (fun c7 => ?_)
    · replace h := cnd_t c7 h
      refine goL ?_
      obtain ⟨g8, h⟩ := gd_s h
      refine VO_aps (l := y1) (s := a1) Tryz.underlying9 infoU g8 ?_
      refine goL ?_
      refine VO_r (QR_ixn y3 (gStr hx6)) ?_
      refine goL ?_
      obtain ⟨g9, h⟩ := gd_s h
      refine VO_aps (l := (y1 ++ a1)) (s := x6) Tryz.underlying9 infoU g9 ?_
      refine goL ?_
      refine VO_r (QR_inc y3 (by omega)) ?_
      refine goL ?_
      exact ⟨(y3 + 1), ((y1 ++ a1) ++ x6), ((v2 + 1) + 1), h, by omega, ⟨rfl, ⟨⟨rfl, rfl⟩, ⟨rfl, rfl⟩, ⟨rfl, rfl⟩, ⟨rfl, rfl⟩, trivial⟩, ⟨_, rfl⟩, rfl⟩⟩
    · replace h := cnd_f c7 h
      refine V_skip ?_
      show V _ _ _ _ _
      refine goL ?_
      refine VO_r (QR_ixn y3 (gStr hx6)) ?_
      refine goL ?_
      obtain ⟨g10, h⟩ := gd_s h
      refine VO_aps (l := y1) (s := x6) Tryz.underlying9 infoU g10 ?_
      refine goL ?_
      refine VO_r (QR_inc y3 (by omega)) ?_
      refine goL ?_
      exact ⟨(y3 + 1), (y1 ++ x6), (v2 + 1), h, by omega, ⟨rfl, ⟨⟨rfl, rfl⟩, ⟨rfl, rfl⟩, ⟨rfl, rfl⟩, ⟨rfl, rfl⟩, trivial⟩, ⟨_, rfl⟩, rfl⟩⟩
  · have hky32 := kgeN c5
    rw [drop_end hky32, b_sJoin_l1.eq_1] at h
    refine V_exit ?_
    show V _ _ _ _ _
    refine goL ?_
    refine VO_k (Q_convBs (l := y1) Tryz.underlying22 Tryz.underlying5 Tryz.underlying9) ?_
    refine goL ?_
    refine V_ret ?_
    replace h := Option.some.inj h
    subst h
    exact R_rP
def b_sText_l1 (rec_sText : TSExpr → Option (List UInt8)) : List TSExpr → (List (List UInt8)) → Option (List UInt8)
  | [], y2 => bnd (b_sJoin y2 [32]) fun x10 =>
gd (([40] : List UInt8).length + x10.length ≤ 4294967296) (
gd ((([40] : List UInt8) ++ x10).length + ([41] : List UInt8).length ≤ 4294967296) (
(some ((([40] : List UInt8) ++ x10) ++ ([41] : List UInt8)))))
  | x7 :: xs, y2 => bnd (rec_sText x7) fun x8 =>
gd (y2.length + [x8].length ≤ 4294967296) (
b_sText_l1 rec_sText xs (y2 ++ [x8]))
def b_sText (rec_sText : TSExpr → Option (List UInt8)) (a0 : TSExpr) : Option (List UInt8) :=
(cnd (!(a0.atom == [])) (
(some a0.atom)) (
b_sText_l1 rec_sText a0.list []))
set_option maxHeartbeats 4000000 in
theorem w_sText {rec_sText : TSExpr → Option (List UInt8)} (hrec_sText : ∀ (x0 : TSExpr) {r : List UInt8}, rec_sText x0 = some r → SpecP Tryz.prog 65 [.d (eSExpr x0)] [.s r]) (a0 : TSExpr) {r : List UInt8} (h : b_sText rec_sText a0 = some r) : SpecP Tryz.prog 65 [.d (eSExpr a0)] [.s r] := by
  obtain ⟨a0_0, a0_1⟩ := a0
  unfold b_sText at h
  refine SpecP_intro Tryz.func65 rfl (by kernel_rfl) rfl fun A _ => ?_
  refine goL ?_
  refine V_cb (fun c1 => ?_) (fun c1 => ?_)
  · replace h := cnd_t c1 h
    refine goL ?_
    refine V_ret ?_
    replace h := Option.some.inj h
    subst h
    exact R_rP
  · replace h := cnd_f c1 h
    refine V_skip ?_
    show V _ _ _ _ _
    refine goL ?_
    refine VO_l0 ?_
    refine goL ?_
    refine V_block ?_
    show V _ _ _ _ _
    refine V_bdc 0 1 (fun z5 => ?_)
    refine V_loop3 (fun (y4 : Nat) (y2 : List (List UInt8)) (v3 : Nat) => ⟨[(1, .ptr 0 0), (3, .sl 1 v3), (4, .d (.i .i64 (y4 : Int)))], [.box [.d (.s a0_0), .d (.sl 2 (eSExprs a0_1))], .own 9 1 v3 (eStrs y2)], Tryz.f65.ntmps⟩) (fun y4 y2 v3 => b_sText_l1 rec_sText (a0_1.drop y4) y2 = some r) (fun y4 y2 v3 => a0_1.length - y4) 0 [] 0 ⟨rfl, ⟨⟨rfl, rfl⟩, ⟨rfl, rfl⟩, ⟨rfl, rfl⟩, trivial⟩, ⟨[], rfl⟩, rfl⟩ h ?_
    rintro y4 y2 v3 h
    refine goL ?_
    refine V_cb (fun c6 => ?_) (fun c6 => ?_)
    · have hky42 := kltN c6
      obtain ⟨x7, hx7, hdx7⟩ := drop_at hky42
      rw [hdx7, b_sText_l1.eq_2] at h
      obtain ⟨x7_0, x7_1⟩ := x7
      refine V_skip ?_
      show V _ _ _ _ _
      refine V_seq (V_block ?_)
      refine goL ?_
      refine VO_r (QR_ixn y4 (gSExpr hx7)) ?_
      refine goL ?_
      obtain ⟨x8, hx8, h⟩ := bnd_s h
      refine VO_r (QR_call (hrec_sText (TSExpr.mk x7_0 x7_1) hx8)) ?_
      refine VO_l1t x8 ?_
      obtain ⟨g9, h⟩ := gd_s h
      refine VO_ap g9 ?_
      refine goL ?_
      refine VO_r (QR_inc y4 (by omega)) ?_
      refine goL ?_
      exact ⟨(y4 + 1), (y2 ++ [x8]), (v3 + 1), h, by omega, ⟨rfl, ⟨⟨rfl, rfl⟩, ⟨rfl, rfl⟩, ⟨rfl, rfl⟩, trivial⟩, ⟨_, rfl⟩, rfl⟩⟩
    · have hky42 := kgeN c6
      rw [drop_end hky42, b_sText_l1.eq_1] at h
      refine V_exit ?_
      show V _ _ _ _ _
      refine goL ?_
      obtain ⟨x10, hx10, h⟩ := bnd_s h
      refine VO_k (Q_cb (w_sJoin y2 [32] hx10)) ?_
      obtain ⟨g11, h⟩ := gd_s h
      refine VO_r (QR_cat g11) ?_
      obtain ⟨g12, h⟩ := gd_s h
      refine VO_r (QR_cat g12) ?_
      refine goL ?_
      refine V_ret ?_
      replace h := Option.some.inj h
      subst h
      exact R_rP
def m_sText : Nat → TSExpr → Option (List UInt8)
  | 0, _ => none
  | n + 1, x0 => b_sText (m_sText n) x0
theorem s_sText : ∀ (n : Nat) (x0 : TSExpr) {r : List UInt8}, m_sText n x0 = some r → SpecP Tryz.prog 65 [.d (eSExpr x0)] [.s r] := by
  intro n
  induction n with
  | zero => intro x0 r h; cases h
  | succ n ih => intro x0 r h; exact w_sText ih x0 h
def b_sFormatX (a0 : TSExpr) : Option (List UInt8) :=
bnd (b_sValidX a0) fun x1 =>
(cnd (!x1) (
(some [])) (
bnd (m_sText 5000 a0) fun x3 =>
(some x3)))
set_option maxHeartbeats 4000000 in
theorem w_sFormatX (a0 : TSExpr) {r : List UInt8} (h : b_sFormatX a0 = some r) : SpecP Tryz.prog 32 [.d (eSExpr a0)] [.s r] := by
  obtain ⟨a0_0, a0_1⟩ := a0
  unfold b_sFormatX at h
  refine SpecP_intro Tryz.func32 rfl (by kernel_rfl) rfl fun A _ => ?_
  refine goL ?_
  obtain ⟨x1, hx1, h⟩ := bnd_s h
  refine VO_r (QR_call (w_sValidX (TSExpr.mk a0_0 a0_1) hx1)) ?_
  refine goL ?_
  refine V_cb (fun c2 => ?_) (fun c2 => ?_)
  · replace h := cnd_t c2 h
    refine goL ?_
    refine V_ret ?_
    replace h := Option.some.inj h
    subst h
    exact R_rP
  · replace h := cnd_f c2 h
    refine V_skip ?_
    show V _ _ _ _ _
    refine goL ?_
    obtain ⟨x3, hx3, h⟩ := bnd_s h
    refine VO_r (QR_call (s_sText 5000 (TSExpr.mk a0_0 a0_1) hx3)) ?_
    refine goL ?_
    refine V_ret ?_
    replace h := Option.some.inj h
    subst h
    exact R_rP
end Go.Proofs.YtgmlpaaklnkghaaGreat
set_option linter.unusedVariables false
set_option linter.unusedSimpArgs false
set_option linter.unusedSectionVars false
namespace Go.Proofs.YtgmlpaaklnkghaaGreat
open Go Go.Eng
attribute [local irreducible] V VO VQ VY Quiet QR SpecP SpecO Rng PostP PostO PostG
def b_iAtom (a0 : List UInt8) : TSExpr :=
(TSExpr.mk a0 [])
set_option maxHeartbeats 4000000 in
theorem w_iAtom (a0 : List UInt8) : SpecP Tryz.prog 49 [.d (.s a0)] [eSExpr (b_iAtom a0)] := by
  obtain ⟨r, h⟩ : ∃ r, b_iAtom a0 = r := ⟨_, rfl⟩
  rw [h]
  unfold b_iAtom at h
  refine SpecP_intro Tryz.func49 rfl (by kernel_rfl) rfl fun A _ => ?_
  refine goL ?_
  refine VO_k (Q_build TBd.h TZ.h rfl (by repeat constructor)) ?_
  refine goL ?_
  refine V_ret ?_
  subst h
  exact R_rP
def b_iList (a0 : List TSExpr) : TSExpr :=
(TSExpr.mk [] a0)
set_option maxHeartbeats 4000000 in
theorem w_iList (a0 : List TSExpr) : SpecP Tryz.prog 50 [.d (.sl 2 (eSExprs a0))] [eSExpr (b_iList a0)] := by
  obtain ⟨r, h⟩ : ∃ r, b_iList a0 = r := ⟨_, rfl⟩
  rw [h]
  unfold b_iList at h
  refine SpecP_intro Tryz.func50 rfl (by kernel_rfl) rfl fun A _ => ?_
  refine goL ?_
  refine VO_k (Q_build TBd.h TZ.h rfl (by repeat constructor)) ?_
  refine goL ?_
  refine V_ret ?_
  subst h
  exact R_rP
def b_sAtom (a0 : List UInt8) : TSExpr :=
(TSExpr.mk a0 [])
set_option maxHeartbeats 4000000 in
theorem w_sAtom (a0 : List UInt8) : SpecP Tryz.prog 66 [.d (.s a0)] [eSExpr (b_sAtom a0)] := by
  obtain ⟨r, h⟩ : ∃ r, b_sAtom a0 = r := ⟨_, rfl⟩
  rw [h]
  unfold b_sAtom at h
  refine SpecP_intro Tryz.func66 rfl (by kernel_rfl) rfl fun A _ => ?_
  refine goL ?_
  refine VO_k (Q_build TBd.h TZ.h rfl (by repeat constructor)) ?_
  refine goL ?_
  refine V_ret ?_
  subst h
  exact R_rP
def b_sList (a0 : List TSExpr) : Option (TSExpr) :=
gd (([] : List TSExpr).length + a0.length ≤ 4294967296) (
(some (TSExpr.mk [] ([] ++ a0))))
set_option maxHeartbeats 4000000 in
theorem w_sList (a0 : List TSExpr) {r : TSExpr} (h : b_sList a0 = some r) : SpecP Tryz.prog 67 [.d (.sl 2 (eSExprs a0))] [eSExpr r] := by
  unfold b_sList at h
  refine SpecP_intro Tryz.func67 rfl (by kernel_rfl) rfl fun A _ => ?_
  refine goL ?_
  refine VO_l0a ?_
  refine goL ?_
  obtain ⟨g1, h⟩ := gd_s h
  refine VO_apa g1 ?_
  refine VO_k (Q_build TBd.h TZ.h rfl (by repeat constructor)) ?_
  refine goL ?_
  refine V_freeze 1 rfl rfl ?_
  refine V_ret ?_
  replace h := Option.some.inj h
  subst h
  exact R_rP
def b_iEncs_l1 (rec_iEnc : TType → Option (TSExpr)) : List TType → (List TSExpr) → Option (List TSExpr)
  | [], y1 => (some y1)
  | x6 :: xs, y1 => bnd (rec_iEnc x6) fun x7 =>
gd (y1.length + [x7].length ≤ 4294967296) (
b_iEncs_l1 rec_iEnc xs (y1 ++ [x7]))
def b_iEncs (rec_iEncs : (List TType) → Option (List TSExpr)) (rec_iEnc : TType → Option (TSExpr)) (a0 : List TType) : Option (List TSExpr) :=
b_iEncs_l1 rec_iEnc a0 []
set_option maxHeartbeats 4000000 in
theorem w_iEncs {rec_iEncs : (List TType) → Option (List TSExpr)} {rec_iEnc : TType → Option (TSExpr)} (hrec_iEncs : ∀ (x0 : List TType) {r : List TSExpr}, rec_iEncs x0 = some r → SpecP Tryz.prog 51 [.d (.sl 3 (eTypes x0))] [.sl 2 (eSExprs r)]) (hrec_iEnc : ∀ (x0 : TType) {r : TSExpr}, rec_iEnc x0 = some r → SpecP Tryz.prog 21 [.d (eType x0)] [eSExpr r]) (a0 : List TType) {r : List TSExpr} (h : b_iEncs rec_iEncs rec_iEnc a0 = some r) : SpecP Tryz.prog 51 [.d (.sl 3 (eTypes a0))] [.sl 2 (eSExprs r)] := by
  unfold b_iEncs at h
  refine SpecP_intro Tryz.func51 rfl (by kernel_rfl) rfl fun A _ => ?_
  refine goL ?_
  refine VO_l0a ?_
  refine goL ?_
  refine V_block ?_
  show V _ _ _ _ _
  refine V_bd 7 (fun z4 => ?_)
  refine V_loop3 (fun (y3 : Nat) (y1 : List TSExpr) (v2 : Nat) => ⟨[(3, .sl 0 v2), (7, .d (.sl 3 (eTypes a0))), (8, .d (.i .i64 (a0.length : Int))), (9, .d (.i .i64 (y3 : Int)))], [.arr 56 2 v2 (eSExprs y1)], Tryz.f51.ntmps⟩) (fun y3 y1 v2 => b_iEncs_l1 rec_iEnc (a0.drop y3) y1 = some r) (fun y3 y1 v2 => a0.length - y3) 0 [] 0 ⟨rfl, ⟨⟨rfl, rfl⟩, ⟨rfl, rfl⟩, ⟨rfl, rfl⟩, ⟨rfl, rfl⟩, trivial⟩, ⟨[], rfl⟩, rfl⟩ h ?_
  rintro y3 y1 v2 h
  refine goL ?_
  refine V_seq (V_cb (fun c5 => ?_) (fun c5 => ?_))
  · have hky32 := kltN c5
    obtain ⟨x6, hx6, hdx6⟩ := drop_at hky32
    rw [hdx6, b_iEncs_l1.eq_2] at h
    obtain ⟨x6_0, x6_1, x6_2⟩ := x6
    refine V_skip ?_
    show V _ _ _ _ _
    refine V_seq (V_block ?_)
    refine goL ?_
    refine VO_r (QR_ixn y3 (gType hx6)) ?_
    refine goL ?_
    obtain ⟨x7, hx7, h⟩ := bnd_s h
    obtain ⟨x7_0, x7_1⟩ := x7
    refine VO_r (QR_call (hrec_iEnc (TType.mk x6_0 x6_1 x6_2) hx7)) ?_
    refine VO_la1 (u := (.st [.s x7_0, .sl 2 (eSExprs x7_1)])) ?_
    obtain ⟨g8, h⟩ := gd_s h
    refine VO_apa g8 ?_
    refine goL ?_
    refine VO_r (QR_inc y3 (by omega)) ?_
    refine goL ?_
    exact ⟨(y3 + 1), (y1 ++ [(TSExpr.mk x7_0 x7_1)]), (v2 + 1), h, by omega, ⟨rfl, ⟨⟨rfl, rfl⟩, ⟨rfl, rfl⟩, ⟨rfl, rfl⟩, ⟨rfl, rfl⟩, trivial⟩, ⟨_, rfl⟩, rfl⟩⟩
  · have hky32 := kgeN c5
    rw [drop_end hky32, b_iEncs_l1.eq_1] at h
    refine V_exit ?_
    show V _ _ _ _ _
    refine goL ?_
    refine V_freeze 0 rfl rfl ?_
    refine V_ret ?_
    replace h := Option.some.inj h
    subst h
    exact R_rP
def b_iEnc (rec_iEncs : (List TType) → Option (List TSExpr)) (rec_iEnc : TType → Option (TSExpr)) (a0 : TType) : Option (TSExpr) :=
(cnd (a0.kind == 1) (
gd (([39] : List UInt8).length + a0.name.length ≤ 4294967296) (
lt_ (b_iAtom (([39] : List UInt8) ++ a0.name)) fun x3 =>
(some x3))) (
(cnd (a0.kind == 4) (
lt_ (b_iAtom [100, 121, 110]) fun x5 =>
lt_ (b_iAtom a0.name) fun x6 =>
lt_ (b_iList [x5, x6]) fun x7 =>
(some x7)) (
(cnd (a0.kind == 3) (
bnd (at? a0.args 0) fun x9 =>
lt_ (b_iAtom [97, 115, 115, 111, 99]) fun x10 =>
lt_ (b_iAtom a0.name) fun x11 =>
bnd (rec_iEnc x9) fun x12 =>
lt_ (b_iList [x10, x11, x12]) fun x13 =>
(some x13)) (
(cnd ((a0.args.length : Int) == 0) (
lt_ (b_iAtom a0.name) fun x15 =>
(some x15)) (
lt_ (b_iAtom a0.name) fun x16 =>
bnd (rec_iEncs a0.args) fun x17 =>
gd ([x16].length + x17.length ≤ 4294967296) (
lt_ (b_iList ([x16] ++ x17)) fun x19 =>
(some x19))))))))))
set_option maxHeartbeats 4000000 in
theorem w_iEnc {rec_iEncs : (List TType) → Option (List TSExpr)} {rec_iEnc : TType → Option (TSExpr)} (hrec_iEncs : ∀ (x0 : List TType) {r : List TSExpr}, rec_iEncs x0 = some r → SpecP Tryz.prog 51 [.d (.sl 3 (eTypes x0))] [.sl 2 (eSExprs r)]) (hrec_iEnc : ∀ (x0 : TType) {r : TSExpr}, rec_iEnc x0 = some r → SpecP Tryz.prog 21 [.d (eType x0)] [eSExpr r]) (a0 : TType) {r : TSExpr} (h : b_iEnc rec_iEncs rec_iEnc a0 = some r) : SpecP Tryz.prog 21 [.d (eType a0)] [eSExpr r] := by
  obtain ⟨a0_0, a0_1, a0_2⟩ := a0
  unfold b_iEnc at h
  refine SpecP_intro Tryz.func21 rfl (by kernel_rfl) rfl fun A _ => ?_
  refine goL ?_
  refine V_block ?_
  refine goL ?_
  refine V_cb (fun c1 => ?_) (fun c1 => ?_)
  · replace h := cnd_t c1 h
    refine goL ?_
    obtain ⟨g2, h⟩ := gd_s h
    refine VO_r (QR_cat g2) ?_
    obtain ⟨x3, hx3, h⟩ := lt_x h
    obtain ⟨x3_0, x3_1⟩ := x3
    have sx3 := w_iAtom (([39] : List UInt8) ++ a0_1)
    rw [hx3] at sx3
    refine VO_r (QR_call (sx3)) ?_
    refine goL ?_
    refine V_ret ?_
    replace h := Option.some.inj h
    subst h
    exact R_rP
  · replace h := cnd_f c1 h
    refine goL ?_
    refine V_cb (fun c4 => ?_) (fun c4 => ?_)
    · replace h := cnd_t c4 h
      refine V_seq_drawX (P := Tryz.prog) Mix.h [(1, true), (2, true), (0, false), (3, false), (4, false), (5, false), (6, false)] (by kernel_rfl) ?_
      refine goY ?_
      obtain ⟨x5, hx5, h⟩ := lt_x h
      obtain ⟨x5_0, x5_1⟩ := x5
      have sx5 := w_iAtom [100, 121, 110]
      rw [hx5] at sx5
      refine VY_clh (sx5) ?_
      obtain ⟨x6, hx6, h⟩ := lt_x h
      obtain ⟨x6_0, x6_1⟩ := x6
      have sx6 := w_iAtom a0_1
      rw [hx6] at sx6
      refine VY_clh (sx6) ?_
      refine VY_lb (T := 54) (us := eSExprs [(TSExpr.mk x5_0 x5_1), (TSExpr.mk x6_0 x6_1)]) ?_
      refine VY_frz 2 rfl rfl ?_
      obtain ⟨x7, hx7, h⟩ := lt_x h
      obtain ⟨x7_0, x7_1⟩ := x7
      have sx7 := w_iList [(TSExpr.mk x5_0 x5_1), (TSExpr.mk x6_0 x6_1)]
      rw [hx7] at sx7
      refine VY_clh (sx7) ?_
      refine goY ?_
      refine VY_nil ?_
      refine goL ?_
      refine V_ret ?_
      replace h := Option.some.inj h
      subst h
      exact R_rP
    · replace h := cnd_f c4 h
      refine goL ?_
      refine V_cb (fun c8 => ?_) (fun c8 => ?_)
      · replace h := cnd_t c8 h
        refine V_seq_drawX (P := Tryz.prog) Mix.h [(1, true), (2, true), (4, true), (5, true), (6, true), (7, true), (0, false), (3, false), (8, false), (9, false), (10, false), (11, false)] (by kernel_rfl) ?_
        refine goY ?_
        obtain ⟨x9, hx9, h⟩ := bnd_s h
        obtain ⟨hx90, hx9⟩ := at_s hx9
        obtain ⟨x9_0, x9_1, x9_2⟩ := x9
        refine VY_ri rfl (QR_ixi hx90 (gType hx9)) ?_
        refine goY ?_
        obtain ⟨x10, hx10, h⟩ := lt_x h
        obtain ⟨x10_0, x10_1⟩ := x10
        have sx10 := w_iAtom [97, 115, 115, 111, 99]
        rw [hx10] at sx10
        refine VY_clh (sx10) ?_
        obtain ⟨x11, hx11, h⟩ := lt_x h
        obtain ⟨x11_0, x11_1⟩ := x11
        have sx11 := w_iAtom a0_1
        rw [hx11] at sx11
        refine VY_clh (sx11) ?_
        obtain ⟨x12, hx12, h⟩ := bnd_s h
        obtain ⟨x12_0, x12_1⟩ := x12
        refine VY_clh (hrec_iEnc (TType.mk x9_0 x9_1 x9_2) hx12) ?_
        refine VY_lb (T := 54) (us := eSExprs [(TSExpr.mk x10_0 x10_1), (TSExpr.mk x11_0 x11_1), (TSExpr.mk x12_0 x12_1)]) ?_
        refine VY_frz 2 rfl rfl ?_
        obtain ⟨x13, hx13, h⟩ := lt_x h
        obtain ⟨x13_0, x13_1⟩ := x13
        have sx13 := w_iList [(TSExpr.mk x10_0 x10_1), (TSExpr.mk x11_0 x11_1), (TSExpr.mk x12_0 x12_1)]
        rw [hx13] at sx13
        refine VY_clh (sx13) ?_
        refine goY ?_
        refine VY_nil ?_
        refine goL ?_
        refine V_ret ?_
        replace h := Option.some.inj h
        subst h
        exact R_rP
      · replace h := cnd_f c8 h
        refine V_skip ?_
        show V _ _ _ _ _
        refine goL ?_
        refine V_cb (fun c14 => ?_) (fun c14 => ?_)
        · replace h := cnd_t c14 h
          refine goL ?_
          obtain ⟨x15, hx15, h⟩ := lt_x h
          obtain ⟨x15_0, x15_1⟩ := x15
          have sx15 := w_iAtom a0_1
          rw [hx15] at sx15
          refine VO_r (QR_call (sx15)) ?_
          refine goL ?_
          refine V_ret ?_
          replace h := Option.some.inj h
          subst h
          exact R_rP
        · replace h := cnd_f c14 h
          refine V_skip ?_
          show V _ _ _ _ _
          refine V_seq_drawX (P := Tryz.prog) Mix.h [(0, true), (1, true), (4, true), (5, true), (2, false), (6, true), (3, false), (7, false), (8, false), (9, false)] (by kernel_rfl) ?_
          refine goY ?_
          obtain ⟨x16, hx16, h⟩ := lt_x h
          obtain ⟨x16_0, x16_1⟩ := x16
          have sx16 := w_iAtom a0_1
          rw [hx16] at sx16
          refine VY_clh (sx16) ?_
          obtain ⟨x17, hx17, h⟩ := bnd_s h
          refine VY_ri rfl (QR_call (hrec_iEncs a0_2 hx17)) ?_
          refine VY_lb (T := 54) (us := eSExprs [(TSExpr.mk x16_0 x16_1)]) ?_
          obtain ⟨g18, h⟩ := gd_s h
          refine VY_apa (T := 54) g18 ?_
          refine VY_frz 2 rfl rfl ?_
          obtain ⟨x19, hx19, h⟩ := lt_x h
          obtain ⟨x19_0, x19_1⟩ := x19
          have sx19 := w_iList ([(TSExpr.mk x16_0 x16_1)] ++ x17)
          rw [hx19] at sx19
          refine VY_clh (sx19) ?_
          refine goY ?_
          refine VY_nil ?_
          refine goL ?_
          refine V_ret ?_
          replace h := Option.some.inj h
          subst h
          exact R_rP
mutual
def m_iEncs : Nat → (List TType) → Option (List TSExpr)
  | 0, _ => none
  | n + 1, x0 => b_iEncs (m_iEncs n) (m_iEnc n) x0
def m_iEnc : Nat → TType → Option (TSExpr)
  | 0, _ => none
  | n + 1, x0 => b_iEnc (m_iEncs n) (m_iEnc n) x0
end
theorem ss_iEncs : ∀ (n : Nat), (∀ (x0 : List TType) {r : List TSExpr}, m_iEncs n x0 = some r → SpecP Tryz.prog 51 [.d (.sl 3 (eTypes x0))] [.sl 2 (eSExprs r)]) ∧ (∀ (x0 : TType) {r : TSExpr}, m_iEnc n x0 = some r → SpecP Tryz.prog 21 [.d (eType x0)] [eSExpr r]) := by
  intro n
  induction n with
  | zero => exact ⟨(by intro x0 r h; cases h), (by intro x0 r h; cases h)⟩
  | succ n ih =>
    obtain ⟨ih0, ih1⟩ := ih
    refine ⟨(fun x0 r h => w_iEncs ih0 ih1 x0 h), (fun x0 r h => w_iEnc ih0 ih1 x0 h)⟩
theorem s_iEnc : ∀ (n : Nat) (x0 : TType) {r : TSExpr}, m_iEnc n x0 = some r → SpecP Tryz.prog 21 [.d (eType x0)] [eSExpr r] := fun n => (ss_iEncs n).2
def b_sEnc_l1 (rec_sEnc : TType → Option (TSExpr)) : List TType → (List TSExpr) → Option (TSExpr)
  | [], y17 => (some (TSExpr.mk [] y17))
  | x22 :: xs, y17 => bnd (rec_sEnc x22) fun x23 =>
gd (y17.length + [x23].length ≤ 4294967296) (
b_sEnc_l1 rec_sEnc xs (y17 ++ [x23]))
def b_sEnc_l2 (rec_sEnc : TType → Option (TSExpr)) : List TType → (List TSExpr) → Option (TSExpr)
  | [], y27 => (some (TSExpr.mk [] y27))
  | x32 :: xs, y27 => bnd (rec_sEnc x32) fun x33 =>
gd (y27.length + [x33].length ≤ 4294967296) (
b_sEnc_l2 rec_sEnc xs (y27 ++ [x33]))
def b_sEnc (rec_sEnc : TType → Option (TSExpr)) (a0 : TType) : Option (TSExpr) :=
(cnd (a0.kind == 1) (
gd (([39] : List UInt8).length + a0.name.length ≤ 4294967296) (
lt_ (b_sAtom (([39] : List UInt8) ++ a0.name)) fun x3 =>
(some x3))) (
(cnd (a0.kind == 4) (
lt_ (b_sAtom [100, 121, 110]) fun x5 =>
lt_ (b_sAtom a0.name) fun x6 =>
bnd (b_sList [x5, x6]) fun x7 =>
(some x7)) (
lt_ ((cnd (a0.kind == 2) (((a0.args.length : Int) == 0)) (false))) fun b8 =>
(cnd b8 (
lt_ (b_sAtom a0.name) fun x11 =>
(some x11)) (
(cnd (a0.kind == 3) (
lt_ (b_sAtom [97, 115, 115, 111, 99]) fun x13 =>
gd (([] : List TSExpr).length + [x13].length ≤ 4294967296) (
lt_ (b_sAtom a0.name) fun x15 =>
gd (([] ++ [x13]).length + [x15].length ≤ 4294967296) (
b_sEnc_l1 rec_sEnc a0.args (([] ++ [x13]) ++ [x15])))) (
lt_ (b_sAtom a0.name) fun x25 =>
gd (([] : List TSExpr).length + [x25].length ≤ 4294967296) (
b_sEnc_l2 rec_sEnc a0.args ([] ++ [x25]))))))))))
set_option maxHeartbeats 4000000 in
theorem w_sEnc {rec_sEnc : TType → Option (TSExpr)} (hrec_sEnc : ∀ (x0 : TType) {r : TSExpr}, rec_sEnc x0 = some r → SpecP Tryz.prog 33 [.d (eType x0)] [eSExpr r]) (a0 : TType) {r : TSExpr} (h : b_sEnc rec_sEnc a0 = some r) : SpecP Tryz.prog 33 [.d (eType a0)] [eSExpr r] := by
  obtain ⟨a0_0, a0_1, a0_2⟩ := a0
  unfold b_sEnc at h
  refine SpecP_intro Tryz.func33 rfl (by kernel_rfl) rfl fun A _ => ?_
  refine goL ?_
  refine V_seq (V_block ?_)
  refine goL ?_
  refine V_cb (fun c1 => ?_) (fun c1 => ?_)
  · replace h := cnd_t c1 h
    refine goL ?_
    obtain ⟨g2, h⟩ := gd_s h
    refine VO_r (QR_cat g2) ?_
    obtain ⟨x3, hx3, h⟩ := lt_x h
    obtain ⟨x3_0, x3_1⟩ := x3
    have sx3 := w_sAtom (([39] : List UInt8) ++ a0_1)
    rw [hx3] at sx3
    refine VO_r (QR_call (sx3)) ?_
    refine goL ?_
    refine V_ret ?_
    replace h := Option.some.inj h
    subst h
    exact R_rP
  · replace h := cnd_f c1 h
    refine goL ?_
    refine V_cb (fun c4 => ?_) (fun c4 => ?_)
    · replace h := cnd_t c4 h
      refine V_seq_drawX (P := Tryz.prog) Mix.h [(1, true), (2, true), (0, false), (3, false), (4, false), (5, false), (6, false)] (by kernel_rfl) ?_
      refine goY ?_
      obtain ⟨x5, hx5, h⟩ := lt_x h
      obtain ⟨x5_0, x5_1⟩ := x5
      have sx5 := w_sAtom [100, 121, 110]
      rw [hx5] at sx5
      refine VY_clh (sx5) ?_
      obtain ⟨x6, hx6, h⟩ := lt_x h
      obtain ⟨x6_0, x6_1⟩ := x6
      have sx6 := w_sAtom a0_1
      rw [hx6] at sx6
      refine VY_clh (sx6) ?_
      refine VY_lb (T := 54) (us := eSExprs [(TSExpr.mk x5_0 x5_1), (TSExpr.mk x6_0 x6_1)]) ?_
      refine VY_frz 2 rfl rfl ?_
      obtain ⟨x7, hx7, h⟩ := bnd_s h
      obtain ⟨x7_0, x7_1⟩ := x7
      refine VY_clh (w_sList [(TSExpr.mk x5_0 x5_1), (TSExpr.mk x6_0 x6_1)] hx7) ?_
      refine goY ?_
      refine VY_nil ?_
      refine goL ?_
      refine V_ret ?_
      replace h := Option.some.inj h
      subst h
      exact R_rP
    · replace h := cnd_f c4 h
      refine goL ?_
      obtain ⟨b8, hb8, h⟩ := lt_x h
      refine VO_join ⟨[(1, .ptr 0 0), (2, .ptr 1 0), (23, .d (.b b8))], [.box [.d (.i .i64 a0_0), .d (.s a0_1), .d (.sl 3 (eTypes a0_2))], .box [.d (.s []), .nilsl]], Tryz.f33.ntmps⟩ ?_ ?_
      · refine VO_case 27 (fun c9 => ?_) (fun c9 => ?_) (by first | rfl | (simp only [eTypes_len, eBindings_len]; rfl))
        · replace hb8 := cnd_t c9 hb8
          refine goL ?_
          cases hb8
          exact ⟨rfl, ⟨⟨rfl, rfl⟩, ⟨rfl, rfl⟩, ⟨by first | rfl | (simp only [eTypes_len, eBindings_len]; rfl), rfl⟩, trivial⟩, ⟨[], rfl⟩, rfl⟩
        · replace hb8 := cnd_f c9 hb8
          refine goL ?_
          cases hb8
          exact ⟨rfl, ⟨⟨rfl, rfl⟩, ⟨rfl, rfl⟩, ⟨by first | rfl | (simp only [eTypes_len, eBindings_len]; rfl), rfl⟩, trivial⟩, ⟨[], rfl⟩, rfl⟩
      refine goL ?_
      refine V_cb (fun c10 => ?_) (fun c10 => ?_)
      · replace h := cnd_t c10 h
        refine goL ?_
        obtain ⟨x11, hx11, h⟩ := lt_x h
        obtain ⟨x11_0, x11_1⟩ := x11
        have sx11 := w_sAtom a0_1
        rw [hx11] at sx11
        refine VO_r (QR_call (sx11)) ?_
        refine goL ?_
        refine V_ret ?_
        replace h := Option.some.inj h
        subst h
        exact R_rP
      · replace h := cnd_f c10 h
        refine V_skip ?_
        show V _ _ _ _ _
        refine goL ?_
        refine VO_k (Q_build TBd.h TZ.h rfl (by repeat constructor)) ?_
        refine goL ?_
        refine V_cb (fun c12 => ?_) (fun c12 => ?_)
        · replace h := cnd_t c12 h
          refine V_adoptA 56 2 2 1 rfl rfl (by repeat constructor) (by repeat constructor) (by repeat constructor) (by repeat constructor) ?_
          refine V_drawX (P := Tryz.prog) Mix.h [(0, true), (1, true), (2, false), (3, false), (4, false), (5, true), (6, false)] (by kernel_rfl) ?_
          refine goY ?_
          obtain ⟨x13, hx13, h⟩ := lt_x h
          obtain ⟨x13_0, x13_1⟩ := x13
          have sx13 := w_sAtom [97, 115, 115, 111, 99]
          rw [hx13] at sx13
          refine VY_clh (sx13) ?_
          refine VY_lb (T := 54) (us := eSExprs [(TSExpr.mk x13_0 x13_1)]) ?_
          obtain ⟨g14, h⟩ := gd_s h
          refine VY_apa (T := 54) g14 ?_
          refine goY ?_
          refine VY_nil ?_
          refine goNL ?_
          refine V_seq_drawX (P := Tryz.prog) Mix.h [(0, true), (1, true), (2, true), (3, true), (4, false), (5, false), (6, false), (7, true), (8, false)] (by kernel_rfl) ?_
          refine goY ?_
          obtain ⟨x15, hx15, h⟩ := lt_x h
          obtain ⟨x15_0, x15_1⟩ := x15
          have sx15 := w_sAtom a0_1
          rw [hx15] at sx15
          refine VY_clh (sx15) ?_
          refine VY_lb (T := 54) (us := eSExprs [(TSExpr.mk x15_0 x15_1)]) ?_
          obtain ⟨g16, h⟩ := gd_s h
          refine VY_apa (T := 54) g16 ?_
          refine goY ?_
          refine VY_nil ?_
          refine goL ?_
          refine V_block ?_
          show V _ _ _ _ _
          refine V_bdc 0 2 (fun z20 => ?_)
          refine V_loop3 (fun (y19 : Nat) (y17 : List TSExpr) (v18 : Nat) => ⟨[(1, .ptr 0 0), (2, .ptr 1 0), (3, .ptr 2 0), (4, .d (.i .i64 (y19 : Int)))], [.box [.d (.i .i64 a0_0), .d (.s a0_1), .d (.sl 3 (eTypes a0_2))], .box [.d (.s []), .nilsl], .box [.d (.s []), .sl 3 v18], .arr 56 2 v18 (eSExprs y17), .arr 56 2 0 (eSExprs [(TSExpr.mk x13_0 x13_1)]), .arr 56 2 0 (eSExprs [(TSExpr.mk x15_0 x15_1)])], Tryz.f33.ntmps⟩) (fun y19 y17 v18 => b_sEnc_l1 rec_sEnc (a0_2.drop y19) y17 = some r) (fun y19 y17 v18 => a0_2.length - y19) 0 (([] ++ [(TSExpr.mk x13_0 x13_1)]) ++ [(TSExpr.mk x15_0 x15_1)]) ((0 + 1) + 1) ⟨rfl, ⟨⟨rfl, rfl⟩, ⟨rfl, rfl⟩, ⟨rfl, rfl⟩, ⟨rfl, rfl⟩, trivial⟩, ⟨[], rfl⟩, rfl⟩ h ?_
          rintro y19 y17 v18 h
          refine goL ?_
          refine V_cb (fun c21 => ?_) (fun c21 => ?_)
          · have hky192 := kltN c21
            obtain ⟨x22, hx22, hdx22⟩ := drop_at hky192
            rw [hdx22, b_sEnc_l1.eq_2] at h
            obtain ⟨x22_0, x22_1, x22_2⟩ := x22
            refine V_skip ?_
            show V _ _ _ _ _
            refine V_seq (V_block ?_)
            refine V_drawX (P := Tryz.prog) Mix.h [(0, true), (1, true), (2, true), (3, true), (4, true), (5, true), (6, true), (7, false), (8, false), (9, false), (10, true), (11, false)] (by kernel_rfl) ?_
            refine goY ?_
            refine VY_ri rfl (QR_ixn y19 (gType hx22)) ?_
            refine goY ?_
            obtain ⟨x23, hx23, h⟩ := bnd_s h
            obtain ⟨x23_0, x23_1⟩ := x23
            refine VY_clh (hrec_sEnc (TType.mk x22_0 x22_1 x22_2) hx23) ?_
            refine VY_lb (T := 54) (us := eSExprs [(TSExpr.mk x23_0 x23_1)]) ?_
            obtain ⟨g24, h⟩ := gd_s h
            refine VY_apa (T := 54) g24 ?_
            refine goY ?_
            refine VY_nil ?_
            refine goL ?_
            refine VO_r (QR_inc y19 (by omega)) ?_
            refine goL ?_
            exact ⟨(y19 + 1), (y17 ++ [(TSExpr.mk x23_0 x23_1)]), (v18 + 1), h, by omega, ⟨rfl, ⟨⟨rfl, rfl⟩, ⟨rfl, rfl⟩, ⟨rfl, rfl⟩, ⟨rfl, rfl⟩, trivial⟩, ⟨_, rfl⟩, rfl⟩⟩
          · have hky192 := kgeN c21
            rw [drop_end hky192, b_sEnc_l1.eq_1] at h
            refine V_exit ?_
            show V _ _ _ _ _
            refine goL ?_
            refine V_freeze 3 rfl rfl ?_
            refine V_ret ?_
            replace h := Option.some.inj h
            subst h
            exact R_rP
        · replace h := cnd_f c12 h
          refine V_skip ?_
          show V _ _ _ _ _
          refine V_adoptA 56 2 2 1 rfl rfl (by repeat constructor) (by repeat constructor) (by repeat constructor) (by repeat constructor) ?_
          refine V_seq_drawX (P := Tryz.prog) Mix.h [(0, true), (1, true), (2, true), (3, true), (4, false), (5, false), (6, false), (7, true), (8, false)] (by kernel_rfl) ?_
          refine goY ?_
          obtain ⟨x25, hx25, h⟩ := lt_x h
          obtain ⟨x25_0, x25_1⟩ := x25
          have sx25 := w_sAtom a0_1
          rw [hx25] at sx25
          refine VY_clh (sx25) ?_
          refine VY_lb (T := 54) (us := eSExprs [(TSExpr.mk x25_0 x25_1)]) ?_
          obtain ⟨g26, h⟩ := gd_s h
          refine VY_apa (T := 54) g26 ?_
          refine goY ?_
          refine VY_nil ?_
          refine goL ?_
          refine V_block ?_
          show V _ _ _ _ _
          refine V_bdc 0 2 (fun z30 => ?_)
          refine V_loop3 (fun (y29 : Nat) (y27 : List TSExpr) (v28 : Nat) => ⟨[(1, .ptr 0 0), (2, .ptr 1 0), (3, .ptr 2 0), (4, .d (.i .i64 (y29 : Int)))], [.box [.d (.i .i64 a0_0), .d (.s a0_1), .d (.sl 3 (eTypes a0_2))], .box [.d (.s []), .nilsl], .box [.d (.s []), .sl 3 v28], .arr 56 2 v28 (eSExprs y27), .arr 56 2 0 (eSExprs [(TSExpr.mk x25_0 x25_1)])], Tryz.f33.ntmps⟩) (fun y29 y27 v28 => b_sEnc_l2 rec_sEnc (a0_2.drop y29) y27 = some r) (fun y29 y27 v28 => a0_2.length - y29) 0 ([] ++ [(TSExpr.mk x25_0 x25_1)]) (0 + 1) ⟨rfl, ⟨⟨rfl, rfl⟩, ⟨rfl, rfl⟩, ⟨rfl, rfl⟩, ⟨rfl, rfl⟩, trivial⟩, ⟨[], rfl⟩, rfl⟩ h ?_
          rintro y29 y27 v28 h
          refine goL ?_
          refine V_cb (fun c31 => ?_) (fun c31 => ?_)
          · have hky292 := kltN c31
            obtain ⟨x32, hx32, hdx32⟩ := drop_at hky292
            rw [hdx32, b_sEnc_l2.eq_2] at h
            obtain ⟨x32_0, x32_1, x32_2⟩ := x32
            refine V_skip ?_
            show V _ _ _ _ _
            refine V_seq (V_block ?_)
            refine V_drawX (P := Tryz.prog) Mix.h [(0, true), (1, true), (2, true), (3, true), (4, true), (5, true), (6, true), (7, false), (8, false), (9, false), (10, true), (11, false)] (by kernel_rfl) ?_
            refine goY ?_
            refine VY_ri rfl (QR_ixn y29 (gType hx32)) ?_
            refine goY ?_
            obtain ⟨x33, hx33, h⟩ := bnd_s h
            obtain ⟨x33_0, x33_1⟩ := x33
            refine VY_clh (hrec_sEnc (TType.mk x32_0 x32_1 x32_2) hx33) ?_
            refine VY_lb (T := 54) (us := eSExprs [(TSExpr.mk x33_0 x33_1)]) ?_
            obtain ⟨g34, h⟩ := gd_s h
            refine VY_apa (T := 54) g34 ?_
            refine goY ?_
            refine VY_nil ?_
            refine goL ?_
            refine VO_r (QR_inc y29 (by omega)) ?_
            refine goL ?_
            exact ⟨(y29 + 1), (y27 ++ [(TSExpr.mk x33_0 x33_1)]), (v28 + 1), h, by omega, ⟨rfl, ⟨⟨rfl, rfl⟩, ⟨rfl, rfl⟩, ⟨rfl, rfl⟩, ⟨rfl, rfl⟩, trivial⟩, ⟨_, rfl⟩, rfl⟩⟩
          · have hky292 := kgeN c31
            rw [drop_end hky292, b_sEnc_l2.eq_1] at h
            refine V_exit ?_
            show V _ _ _ _ _
            refine goL ?_
            refine V_freeze 3 rfl rfl ?_
            refine V_ret ?_
            replace h := Option.some.inj h
            subst h
            exact R_rP
def m_sEnc : Nat → TType → Option (TSExpr)
  | 0, _ => none
  | n + 1, x0 => b_sEnc (m_sEnc n) x0
theorem s_sEnc : ∀ (n : Nat) (x0 : TType) {r : TSExpr}, m_sEnc n x0 = some r → SpecP Tryz.prog 33 [.d (eType x0)] [eSExpr r] := by
  intro n
  induction n with
  | zero => intro x0 r h; cases h
  | succ n ih => intro x0 r h; exact w_sEnc ih x0 h
def b_iFormatT (a0 : TType) : Option (List UInt8) :=
(cnd (!(b_iValidType a0)) (
(some [])) (
bnd (m_iEnc 5000 a0) fun x2 =>
bnd (b_iFormatX x2) fun x3 =>
(some x3)))
set_option maxHeartbeats 4000000 in
theorem w_iFormatT (a0 : TType) {r : List UInt8} (h : b_iFormatT a0 = some r) : SpecP Tryz.prog 7 [.d (eType a0)] [.s r] := by
  obtain ⟨a0_0, a0_1, a0_2⟩ := a0
  unfold b_iFormatT at h
  refine SpecP_intro Tryz.func7 rfl (by kernel_rfl) rfl fun A _ => ?_
  refine goL ?_
  refine VO_r (QR_call (w_iValidType (TType.mk a0_0 a0_1 a0_2))) ?_
  refine goL ?_
  refine V_cb (fun c1 => ?_) (fun c1 => ?_)
  · replace h := cnd_t c1 h
    refine goL ?_
    refine V_ret ?_
    replace h := Option.some.inj h
    subst h
    exact R_rP
  · replace h := cnd_f c1 h
    refine V_skip ?_
    show V _ _ _ _ _
    refine goL ?_
    obtain ⟨x2, hx2, h⟩ := bnd_s h
    obtain ⟨x2_0, x2_1⟩ := x2
    refine VO_r (QR_call (s_iEnc 5000 (TType.mk a0_0 a0_1 a0_2) hx2)) ?_
    obtain ⟨x3, hx3, h⟩ := bnd_s h
    refine VO_r (QR_call (w_iFormatX (TSExpr.mk x2_0 x2_1) hx3)) ?_
    refine goL ?_
    refine V_ret ?_
    replace h := Option.some.inj h
    subst h
    exact R_rP
def b_sFormatT (a0 : TType) : Option (List UInt8) :=
bnd (b_sValidType a0) fun x1 =>
(cnd (!x1) (
(some [])) (
bnd (m_sEnc 5000 a0) fun x3 =>
bnd (b_sFormatX x3) fun x4 =>
(some x4)))
set_option maxHeartbeats 4000000 in
theorem w_sFormatT (a0 : TType) {r : List UInt8} (h : b_sFormatT a0 = some r) : SpecP Tryz.prog 14 [.d (eType a0)] [.s r] := by
  obtain ⟨a0_0, a0_1, a0_2⟩ := a0
  unfold b_sFormatT at h
  refine SpecP_intro Tryz.func14 rfl (by kernel_rfl) rfl fun A _ => ?_
  refine goL ?_
  obtain ⟨x1, hx1, h⟩ := bnd_s h
  refine VO_r (QR_call (w_sValidType (TType.mk a0_0 a0_1 a0_2) hx1)) ?_
  refine goL ?_
  refine V_cb (fun c2 => ?_) (fun c2 => ?_)
  · replace h := cnd_t c2 h
    refine goL ?_
    refine V_ret ?_
    replace h := Option.some.inj h
    subst h
    exact R_rP
  · replace h := cnd_f c2 h
    refine V_skip ?_
    show V _ _ _ _ _
    refine goL ?_
    obtain ⟨x3, hx3, h⟩ := bnd_s h
    obtain ⟨x3_0, x3_1⟩ := x3
    refine VO_r (QR_call (s_sEnc 5000 (TType.mk a0_0 a0_1 a0_2) hx3)) ?_
    obtain ⟨x4, hx4, h⟩ := bnd_s h
    refine VO_r (QR_call (w_sFormatX (TSExpr.mk x3_0 x3_1) hx4)) ?_
    refine goL ?_
    refine V_ret ?_
    replace h := Option.some.inj h
    subst h
    exact R_rP
end Go.Proofs.YtgmlpaaklnkghaaGreat
