/- Pt9. Written by a program of mine (aw.py). -/
import Derived.Test.YtgmlpaaklnkghaaGreatEng39
import Derived.Test.YtgmlpaaklnkghaaGreatSfi
set_option linter.unusedVariables false
set_option linter.unusedSimpArgs false
set_option linter.unusedSectionVars false
namespace Go.Proofs.YtgmlpaaklnkghaaGreat
open Go Go.Eng
attribute [local irreducible] V VO VQ VY Quiet QR SpecP SpecO Rng PostP PostO PostG
def b_sValidEv_l1 (rec_sValidEv : TEvidence → Option (Bool)) (a0 : TEvidence) : List TEvidence → Option (Bool)
  | [] => (some ((a0.args.length : Int) == (a0.args.length : Int)))
  | x10 :: xs => bnd (rec_sValidEv x10) fun x11 =>
(cnd (!x11) (
(some false)) (
b_sValidEv_l1 rec_sValidEv a0 xs ))
def b_sValidEv_l2 (rec_sValidEv : TEvidence → Option (Bool)) (a0 : TEvidence) : List TEvidence → Option (Bool)
  | [] => (some ((a0.args.length : Int) == 0))
  | x22 :: xs => bnd (rec_sValidEv x22) fun x23 =>
(cnd (!x23) (
(some false)) (
b_sValidEv_l2 rec_sValidEv a0 xs ))
def b_sValidEv_l3 (rec_sValidEv : TEvidence → Option (Bool)) (a0 : TEvidence) : List TEvidence → Option (Bool)
  | [] => (some ((a0.args.length : Int) == 1))
  | x33 :: xs => bnd (rec_sValidEv x33) fun x34 =>
(cnd (!x34) (
(some false)) (
b_sValidEv_l3 rec_sValidEv a0 xs ))
def b_sValidEv_l4 (rec_sValidEv : TEvidence → Option (Bool)) (a0 : TEvidence) : List TEvidence → Option (Bool)
  | [] => (some ((a0.args.length : Int) == 0))
  | x44 :: xs => bnd (rec_sValidEv x44) fun x45 =>
(cnd (!x45) (
(some false)) (
b_sValidEv_l4 rec_sValidEv a0 xs ))
def b_sValidEv_l5 (rec_sValidEv : TEvidence → Option (Bool)) (a0 : TEvidence) : List TEvidence → Option (Bool)
  | [] => (some ((a0.args.length : Int) == 0))
  | x54 :: xs => bnd (rec_sValidEv x54) fun x55 =>
(cnd (!x55) (
(some false)) (
b_sValidEv_l5 rec_sValidEv a0 xs ))
def b_sValidEv (rec_sValidEv : TEvidence → Option (Bool)) (a0 : TEvidence) : Option (Bool) :=
(cnd (a0.kind == 1) (
lt_ ((cnd (a0.n != 0) (true) ((cnd (decide (a0.at_.package < 0)) (true) ((cnd (decide (a0.at_.at_ < 0)) (true) ((decide ((a0.args.length : Int) > 4))))))))) fun b2 =>
(cnd b2 (
(some false)) (
b_sValidEv_l1 rec_sValidEv a0 a0.args ))) (
(cnd (a0.kind == 2) (
lt_ ((cnd (decide (a0.n < 0)) (true) ((!(a0.at_.package == 0 && a0.at_.at_ == 0))))) fun b15 =>
(cnd b15 (
(some false)) (
b_sValidEv_l2 rec_sValidEv a0 a0.args ))) (
(cnd (a0.kind == 3) (
lt_ ((cnd (decide (a0.n < 0)) (true) ((!(a0.at_.package == 0 && a0.at_.at_ == 0))))) fun b26 =>
(cnd b26 (
(some false)) (
b_sValidEv_l3 rec_sValidEv a0 a0.args ))) (
(cnd (a0.kind == 4) (
lt_ ((cnd (a0.n != 0) (true) ((!(a0.at_.package == 0 && a0.at_.at_ == 0))))) fun b38 =>
(cnd b38 (
(some false)) (
b_sValidEv_l4 rec_sValidEv a0 a0.args ))) (
(cnd (a0.kind == 5) (
lt_ ((cnd (a0.n != 0) (true) ((!(a0.at_.package == 0 && a0.at_.at_ == 0))))) fun b48 =>
(cnd b48 (
(some false)) (
b_sValidEv_l5 rec_sValidEv a0 a0.args ))) (
(some false)))))))))))
set_option maxHeartbeats 4000000 in
theorem w_sValidEv {rec_sValidEv : TEvidence → Option (Bool)} (hrec_sValidEv : ∀ (x0 : TEvidence) {r : Bool}, rec_sValidEv x0 = some r → SpecP Tryz.prog 28 [.d (eEvidence x0)] [.b r]) (a0 : TEvidence) {r : Bool} (h : b_sValidEv rec_sValidEv a0 = some r) : SpecP Tryz.prog 28 [.d (eEvidence a0)] [.b r] := by
  obtain ⟨a0_0, a0_1, ⟨a0_2_0, a0_2_1⟩, a0_3⟩ := a0
  unfold b_sValidEv at h
  refine SpecP_intro Tryz.func28 rfl (by kernel_rfl) rfl fun A _ => ?_
  refine goL ?_
  refine V_block ?_
  refine goL ?_
  refine V_cb (fun c1 => ?_) (fun c1 => ?_)
  · replace h := cnd_t c1 h
    refine goL ?_
    obtain ⟨b2, hb2, h⟩ := lt_x h
    refine VO_join ⟨[(1, .ptr 0 0), (29, .d (.b b2))], [.box [.d (.i .i64 a0_0), .d (.i .i64 a0_1), .d (.i .i64 a0_2_0), .d (.i .i64 a0_2_1), .d (.sl 5 (eEvidences a0_3))]], Tryz.f28.ntmps⟩ ?_ ?_
    · refine VO_case 12 (fun c3 => ?_) (fun c3 => ?_)
      · replace hb2 := cnd_t c3 hb2
        refine goL ?_
        cases hb2
        exact ⟨rfl, ⟨⟨rfl, rfl⟩, ⟨rfl, rfl⟩, trivial⟩, ⟨[], rfl⟩, rfl⟩
      · replace hb2 := cnd_f c3 hb2
        refine goL ?_
        refine VO_case 18 (fun c4 => ?_) (fun c4 => ?_)
        · replace hb2 := cnd_t c4 hb2
          refine goL ?_
          cases hb2
          exact ⟨rfl, ⟨⟨rfl, rfl⟩, ⟨rfl, rfl⟩, trivial⟩, ⟨[], rfl⟩, rfl⟩
        · replace hb2 := cnd_f c4 hb2
          refine goL ?_
          refine VO_case 24 (fun c5 => ?_) (fun c5 => ?_)
          · replace hb2 := cnd_t c5 hb2
            refine goL ?_
            cases hb2
            exact ⟨rfl, ⟨⟨rfl, rfl⟩, ⟨rfl, rfl⟩, trivial⟩, ⟨[], rfl⟩, rfl⟩
          · replace hb2 := cnd_f c5 hb2
            refine goL ?_
            cases hb2
            exact ⟨rfl, ⟨⟨rfl, rfl⟩, ⟨rfl, rfl⟩, trivial⟩, ⟨[], rfl⟩, rfl⟩
    refine goL ?_
    refine V_cb (fun c6 => ?_) (fun c6 => ?_)
    · replace h := cnd_t c6 h
      refine goL ?_
      refine V_ret ?_
      replace h := Option.some.inj h
      subst h
      exact R_rP
    · replace h := cnd_f c6 h
      refine V_skip ?_
      show V _ _ _ _ _
      refine goL ?_
      refine V_block ?_
      show V _ _ _ _ _
      refine V_bd 31 (fun z8 => ?_)
      refine V_loop1 (fun (y7 : Nat) => ⟨[(1, .ptr 0 0), (3, .d (.i .i64 (a0_3.length : Int))), (4, .d (.i .i64 (y7 : Int)))], [.box [.d (.i .i64 a0_0), .d (.i .i64 a0_1), .d (.i .i64 a0_2_0), .d (.i .i64 a0_2_1), .d (.sl 5 (eEvidences a0_3))]], Tryz.f28.ntmps⟩) (fun y7 => b_sValidEv_l1 rec_sValidEv (TEvidence.mk a0_0 a0_1 (TInstanceRef.mk a0_2_0 a0_2_1) a0_3) (a0_3.drop y7)  = some r) (fun y7 => a0_3.length - y7) 0 ⟨rfl, ⟨⟨rfl, rfl⟩, ⟨rfl, rfl⟩, ⟨rfl, rfl⟩, trivial⟩, ⟨[], rfl⟩, rfl⟩ h ?_
      rintro y7 h
      refine goL ?_
      refine V_cb (fun c9 => ?_) (fun c9 => ?_)
      · have hky72 := kltN c9
        obtain ⟨x10, hx10, hdx10⟩ := drop_at hky72
        rw [hdx10, b_sValidEv_l1.eq_2] at h
        obtain ⟨x10_0, x10_1, ⟨x10_2_0, x10_2_1⟩, x10_3⟩ := x10
        refine V_skip ?_
        show V _ _ _ _ _
        refine V_seq (V_block ?_)
        refine goL ?_
        refine VO_r (QR_ixn y7 (gEvidence hx10)) ?_
        refine goL ?_
        obtain ⟨x11, hx11, h⟩ := bnd_s h
        refine VO_r (QR_call (hrec_sValidEv (TEvidence.mk x10_0 x10_1 (TInstanceRef.mk x10_2_0 x10_2_1) x10_3) hx11)) ?_
        refine goL ?_
        refine V_cb (fun c12 => ?_) (fun c12 => ?_)
        · replace h := cnd_t c12 h
          refine goL ?_
          refine V_ret ?_
          replace h := Option.some.inj h
          subst h
          exact R_rP
        · replace h := cnd_f c12 h
          refine V_skip ?_
          show V _ _ _ _ _
          refine goL ?_
          refine VO_r (QR_inc y7 (by omega)) ?_
          refine goL ?_
          exact ⟨(y7 + 1), h, by omega, ⟨rfl, ⟨⟨rfl, rfl⟩, ⟨rfl, rfl⟩, ⟨rfl, rfl⟩, trivial⟩, ⟨_, rfl⟩, rfl⟩⟩
      · have hky72 := kgeN c9
        rw [drop_end hky72, b_sValidEv_l1.eq_1] at h
        refine V_exit ?_
        show V _ _ _ _ _
        refine goL ?_
        refine V_ret ?_
        replace h := Option.some.inj h
        subst h
        exact R_rP
  · replace h := cnd_f c1 h
    refine goL ?_
    refine V_cb (fun c13 => ?_) (fun c13 => ?_)
    · replace h := cnd_t c13 h
      refine V_skip ?_
      show V _ _ _ _ _
      refine V_cb (fun c14 => ?_) (fun c14 => ?_)
      · refine goL ?_
        obtain ⟨b15, hb15, h⟩ := lt_x h
        refine VO_join ⟨[(1, .ptr 0 0), (3, .d (.i .i64 0)), (44, .d (.b b15))], [.box [.d (.i .i64 a0_0), .d (.i .i64 a0_1), .d (.i .i64 a0_2_0), .d (.i .i64 a0_2_1), .d (.sl 5 (eEvidences a0_3))]], Tryz.f28.ntmps⟩ ?_ ?_
        · refine VO_case 39 (fun c16 => ?_) (fun c16 => ?_)
          · replace hb15 := cnd_t c16 hb15
            refine goL ?_
            cases hb15
            exact ⟨rfl, ⟨⟨rfl, rfl⟩, ⟨rfl, rfl⟩, ⟨rfl, rfl⟩, trivial⟩, ⟨[], rfl⟩, rfl⟩
          · replace hb15 := cnd_f c16 hb15
            refine goL ?_
            refine VO_b ?_
            refine VO_k (Q_build TBd.h TZ.h rfl (by repeat constructor)) ?_
            refine VO_b ?_
            refine VO_r (QR_neP) ?_
            refine goL ?_
            cases hb15
            exact ⟨rfl, ⟨⟨rfl, rfl⟩, ⟨rfl, rfl⟩, ⟨rfl, rfl⟩, trivial⟩, ⟨[], rfl⟩, rfl⟩
        refine goL ?_
        refine V_cb (fun c17 => ?_) (fun c17 => ?_)
        · replace h := cnd_t c17 h
          refine goL ?_
          refine V_ret ?_
          replace h := Option.some.inj h
          subst h
          exact R_rP
        · replace h := cnd_f c17 h
          refine V_skip ?_
          show V _ _ _ _ _
          refine goL ?_
          refine V_cb (fun c18 => ?_) (fun c18 => ?_)
          · exact absurd ((eq_of_beq c13).symm.trans (eq_of_beq c18)) (by decide)
          · refine V_skip ?_
            show V _ _ _ _ _
            refine goL ?_
            refine V_block ?_
            show V _ _ _ _ _
            refine V_bdc 0 4 (fun z20 => ?_)
            refine V_loop1 (fun (y19 : Nat) => ⟨[(1, .ptr 0 0), (3, .d (.i .i64 0)), (4, .d (.i .i64 (y19 : Int)))], [.box [.d (.i .i64 a0_0), .d (.i .i64 a0_1), .d (.i .i64 a0_2_0), .d (.i .i64 a0_2_1), .d (.sl 5 (eEvidences a0_3))]], Tryz.f28.ntmps⟩) (fun y19 => b_sValidEv_l2 rec_sValidEv (TEvidence.mk a0_0 a0_1 (TInstanceRef.mk a0_2_0 a0_2_1) a0_3) (a0_3.drop y19)  = some r) (fun y19 => a0_3.length - y19) 0 ⟨rfl, ⟨⟨rfl, rfl⟩, ⟨rfl, rfl⟩, ⟨rfl, rfl⟩, trivial⟩, ⟨[], rfl⟩, rfl⟩ h ?_
            rintro y19 h
            refine goL ?_
            refine V_cb (fun c21 => ?_) (fun c21 => ?_)
            · have hky192 := kltN c21
              obtain ⟨x22, hx22, hdx22⟩ := drop_at hky192
              rw [hdx22, b_sValidEv_l2.eq_2] at h
              obtain ⟨x22_0, x22_1, ⟨x22_2_0, x22_2_1⟩, x22_3⟩ := x22
              refine V_skip ?_
              show V _ _ _ _ _
              refine V_seq (V_block ?_)
              refine goL ?_
              refine VO_r (QR_ixn y19 (gEvidence hx22)) ?_
              refine goL ?_
              obtain ⟨x23, hx23, h⟩ := bnd_s h
              refine VO_r (QR_call (hrec_sValidEv (TEvidence.mk x22_0 x22_1 (TInstanceRef.mk x22_2_0 x22_2_1) x22_3) hx23)) ?_
              refine goL ?_
              refine V_cb (fun c24 => ?_) (fun c24 => ?_)
              · replace h := cnd_t c24 h
                refine goL ?_
                refine V_ret ?_
                replace h := Option.some.inj h
                subst h
                exact R_rP
              · replace h := cnd_f c24 h
                refine V_skip ?_
                show V _ _ _ _ _
                refine goL ?_
                refine VO_r (QR_inc y19 (by omega)) ?_
                refine goL ?_
                exact ⟨(y19 + 1), h, by omega, ⟨rfl, ⟨⟨rfl, rfl⟩, ⟨rfl, rfl⟩, ⟨rfl, rfl⟩, trivial⟩, ⟨_, rfl⟩, rfl⟩⟩
            · have hky192 := kgeN c21
              rw [drop_end hky192, b_sValidEv_l2.eq_1] at h
              refine V_exit ?_
              show V _ _ _ _ _
              refine goL ?_
              refine V_ret ?_
              replace h := Option.some.inj h
              subst h
              exact R_rP
      · exact absurd (c13.symm.trans c14) (by decide)
    · replace h := cnd_f c13 h
      refine goL ?_
      refine V_cb (fun c25 => ?_) (fun c25 => ?_)
      · replace h := cnd_t c25 h
        refine goL ?_
        obtain ⟨b26, hb26, h⟩ := lt_x h
        refine VO_join ⟨[(1, .ptr 0 0), (3, .d (.i .i64 0)), (44, .d (.b b26))], [.box [.d (.i .i64 a0_0), .d (.i .i64 a0_1), .d (.i .i64 a0_2_0), .d (.i .i64 a0_2_1), .d (.sl 5 (eEvidences a0_3))]], Tryz.f28.ntmps⟩ ?_ ?_
        · refine VO_case 39 (fun c27 => ?_) (fun c27 => ?_)
          · replace hb26 := cnd_t c27 hb26
            refine goL ?_
            cases hb26
            exact ⟨rfl, ⟨⟨rfl, rfl⟩, ⟨rfl, rfl⟩, ⟨rfl, rfl⟩, trivial⟩, ⟨[], rfl⟩, rfl⟩
          · replace hb26 := cnd_f c27 hb26
            refine goL ?_
            refine VO_b ?_
            refine VO_k (Q_build TBd.h TZ.h rfl (by repeat constructor)) ?_
            refine VO_b ?_
            refine VO_r (QR_neP) ?_
            refine goL ?_
            cases hb26
            exact ⟨rfl, ⟨⟨rfl, rfl⟩, ⟨rfl, rfl⟩, ⟨rfl, rfl⟩, trivial⟩, ⟨[], rfl⟩, rfl⟩
        refine goL ?_
        refine V_cb (fun c28 => ?_) (fun c28 => ?_)
        · replace h := cnd_t c28 h
          refine goL ?_
          refine V_ret ?_
          replace h := Option.some.inj h
          subst h
          exact R_rP
        · replace h := cnd_f c28 h
          refine V_skip ?_
          show V _ _ _ _ _
          refine goL ?_
          refine V_cb (fun c29 => ?_) (fun c29 => ?_)
          · refine goL ?_
            refine V_block ?_
            show V _ _ _ _ _
            refine V_bdc 0 4 (fun z31 => ?_)
            refine V_loop1 (fun (y30 : Nat) => ⟨[(1, .ptr 0 0), (3, .d (.i .i64 1)), (4, .d (.i .i64 (y30 : Int)))], [.box [.d (.i .i64 a0_0), .d (.i .i64 a0_1), .d (.i .i64 a0_2_0), .d (.i .i64 a0_2_1), .d (.sl 5 (eEvidences a0_3))]], Tryz.f28.ntmps⟩) (fun y30 => b_sValidEv_l3 rec_sValidEv (TEvidence.mk a0_0 a0_1 (TInstanceRef.mk a0_2_0 a0_2_1) a0_3) (a0_3.drop y30)  = some r) (fun y30 => a0_3.length - y30) 0 ⟨rfl, ⟨⟨rfl, rfl⟩, ⟨rfl, rfl⟩, ⟨rfl, rfl⟩, trivial⟩, ⟨[], rfl⟩, rfl⟩ h ?_
            rintro y30 h
            refine goL ?_
            refine V_cb (fun c32 => ?_) (fun c32 => ?_)
            · have hky302 := kltN c32
              obtain ⟨x33, hx33, hdx33⟩ := drop_at hky302
              rw [hdx33, b_sValidEv_l3.eq_2] at h
              obtain ⟨x33_0, x33_1, ⟨x33_2_0, x33_2_1⟩, x33_3⟩ := x33
              refine V_skip ?_
              show V _ _ _ _ _
              refine V_seq (V_block ?_)
              refine goL ?_
              refine VO_r (QR_ixn y30 (gEvidence hx33)) ?_
              refine goL ?_
              obtain ⟨x34, hx34, h⟩ := bnd_s h
              refine VO_r (QR_call (hrec_sValidEv (TEvidence.mk x33_0 x33_1 (TInstanceRef.mk x33_2_0 x33_2_1) x33_3) hx34)) ?_
              refine goL ?_
              refine V_cb (fun c35 => ?_) (fun c35 => ?_)
              · replace h := cnd_t c35 h
                refine goL ?_
                refine V_ret ?_
                replace h := Option.some.inj h
                subst h
                exact R_rP
              · replace h := cnd_f c35 h
                refine V_skip ?_
                show V _ _ _ _ _
                refine goL ?_
                refine VO_r (QR_inc y30 (by omega)) ?_
                refine goL ?_
                exact ⟨(y30 + 1), h, by omega, ⟨rfl, ⟨⟨rfl, rfl⟩, ⟨rfl, rfl⟩, ⟨rfl, rfl⟩, trivial⟩, ⟨_, rfl⟩, rfl⟩⟩
            · have hky302 := kgeN c32
              rw [drop_end hky302, b_sValidEv_l3.eq_1] at h
              refine V_exit ?_
              show V _ _ _ _ _
              refine goL ?_
              refine V_ret ?_
              replace h := Option.some.inj h
              subst h
              exact R_rP
          · exact absurd (c25.symm.trans c29) (by decide)
      · replace h := cnd_f c25 h
        refine goL ?_
        refine V_cb (fun c36 => ?_) (fun c36 => ?_)
        · replace h := cnd_t c36 h
          refine V_skip ?_
          show V _ _ _ _ _
          refine V_cb (fun c37 => ?_) (fun c37 => ?_)
          · refine goL ?_
            obtain ⟨b38, hb38, h⟩ := lt_x h
            refine VO_join ⟨[(1, .ptr 0 0), (3, .d (.i .i64 0)), (59, .d (.b b38))], [.box [.d (.i .i64 a0_0), .d (.i .i64 a0_1), .d (.i .i64 a0_2_0), .d (.i .i64 a0_2_1), .d (.sl 5 (eEvidences a0_3))]], Tryz.f28.ntmps⟩ ?_ ?_
            · refine VO_case 54 (fun c39 => ?_) (fun c39 => ?_)
              · replace hb38 := cnd_t c39 hb38
                refine goL ?_
                cases hb38
                exact ⟨rfl, ⟨⟨rfl, rfl⟩, ⟨rfl, rfl⟩, ⟨rfl, rfl⟩, trivial⟩, ⟨[], rfl⟩, rfl⟩
              · replace hb38 := cnd_f c39 hb38
                refine goL ?_
                refine VO_b ?_
                refine VO_k (Q_build TBd.h TZ.h rfl (by repeat constructor)) ?_
                refine VO_b ?_
                refine VO_r (QR_neP) ?_
                refine goL ?_
                cases hb38
                exact ⟨rfl, ⟨⟨rfl, rfl⟩, ⟨rfl, rfl⟩, ⟨rfl, rfl⟩, trivial⟩, ⟨[], rfl⟩, rfl⟩
            refine goL ?_
            refine V_cb (fun c40 => ?_) (fun c40 => ?_)
            · replace h := cnd_t c40 h
              refine goL ?_
              refine V_ret ?_
              replace h := Option.some.inj h
              subst h
              exact R_rP
            · replace h := cnd_f c40 h
              refine V_skip ?_
              show V _ _ _ _ _
              refine goL ?_
              refine V_block ?_
              show V _ _ _ _ _
              refine V_bdc 0 4 (fun z42 => ?_)
              refine V_loop1 (fun (y41 : Nat) => ⟨[(1, .ptr 0 0), (3, .d (.i .i64 0)), (4, .d (.i .i64 (y41 : Int)))], [.box [.d (.i .i64 a0_0), .d (.i .i64 a0_1), .d (.i .i64 a0_2_0), .d (.i .i64 a0_2_1), .d (.sl 5 (eEvidences a0_3))]], Tryz.f28.ntmps⟩) (fun y41 => b_sValidEv_l4 rec_sValidEv (TEvidence.mk a0_0 a0_1 (TInstanceRef.mk a0_2_0 a0_2_1) a0_3) (a0_3.drop y41)  = some r) (fun y41 => a0_3.length - y41) 0 ⟨rfl, ⟨⟨rfl, rfl⟩, ⟨rfl, rfl⟩, ⟨rfl, rfl⟩, trivial⟩, ⟨[], rfl⟩, rfl⟩ h ?_
              rintro y41 h
              refine goL ?_
              refine V_cb (fun c43 => ?_) (fun c43 => ?_)
              · have hky412 := kltN c43
                obtain ⟨x44, hx44, hdx44⟩ := drop_at hky412
                rw [hdx44, b_sValidEv_l4.eq_2] at h
                obtain ⟨x44_0, x44_1, ⟨x44_2_0, x44_2_1⟩, x44_3⟩ := x44
                refine V_skip ?_
                show V _ _ _ _ _
                refine V_seq (V_block ?_)
                refine goL ?_
                refine VO_r (QR_ixn y41 (gEvidence hx44)) ?_
                refine goL ?_
                obtain ⟨x45, hx45, h⟩ := bnd_s h
                refine VO_r (QR_call (hrec_sValidEv (TEvidence.mk x44_0 x44_1 (TInstanceRef.mk x44_2_0 x44_2_1) x44_3) hx45)) ?_
                refine goL ?_
                refine V_cb (fun c46 => ?_) (fun c46 => ?_)
                · replace h := cnd_t c46 h
                  refine goL ?_
                  refine V_ret ?_
                  replace h := Option.some.inj h
                  subst h
                  exact R_rP
                · replace h := cnd_f c46 h
                  refine V_skip ?_
                  show V _ _ _ _ _
                  refine goL ?_
                  refine VO_r (QR_inc y41 (by omega)) ?_
                  refine goL ?_
                  exact ⟨(y41 + 1), h, by omega, ⟨rfl, ⟨⟨rfl, rfl⟩, ⟨rfl, rfl⟩, ⟨rfl, rfl⟩, trivial⟩, ⟨_, rfl⟩, rfl⟩⟩
              · have hky412 := kgeN c43
                rw [drop_end hky412, b_sValidEv_l4.eq_1] at h
                refine V_exit ?_
                show V _ _ _ _ _
                refine goL ?_
                refine V_ret ?_
                replace h := Option.some.inj h
                subst h
                exact R_rP
          · exact absurd (c36.symm.trans c37) (by decide)
        · replace h := cnd_f c36 h
          refine goL ?_
          refine V_cb (fun c47 => ?_) (fun c47 => ?_)
          · replace h := cnd_t c47 h
            refine goL ?_
            obtain ⟨b48, hb48, h⟩ := lt_x h
            refine VO_join ⟨[(1, .ptr 0 0), (3, .d (.i .i64 0)), (59, .d (.b b48))], [.box [.d (.i .i64 a0_0), .d (.i .i64 a0_1), .d (.i .i64 a0_2_0), .d (.i .i64 a0_2_1), .d (.sl 5 (eEvidences a0_3))]], Tryz.f28.ntmps⟩ ?_ ?_
            · refine VO_case 54 (fun c49 => ?_) (fun c49 => ?_)
              · replace hb48 := cnd_t c49 hb48
                refine goL ?_
                cases hb48
                exact ⟨rfl, ⟨⟨rfl, rfl⟩, ⟨rfl, rfl⟩, ⟨rfl, rfl⟩, trivial⟩, ⟨[], rfl⟩, rfl⟩
              · replace hb48 := cnd_f c49 hb48
                refine goL ?_
                refine VO_b ?_
                refine VO_k (Q_build TBd.h TZ.h rfl (by repeat constructor)) ?_
                refine VO_b ?_
                refine VO_r (QR_neP) ?_
                refine goL ?_
                cases hb48
                exact ⟨rfl, ⟨⟨rfl, rfl⟩, ⟨rfl, rfl⟩, ⟨rfl, rfl⟩, trivial⟩, ⟨[], rfl⟩, rfl⟩
            refine goL ?_
            refine V_cb (fun c50 => ?_) (fun c50 => ?_)
            · replace h := cnd_t c50 h
              refine goL ?_
              refine V_ret ?_
              replace h := Option.some.inj h
              subst h
              exact R_rP
            · replace h := cnd_f c50 h
              refine V_skip ?_
              show V _ _ _ _ _
              refine goL ?_
              refine V_block ?_
              show V _ _ _ _ _
              refine V_bdc 0 4 (fun z52 => ?_)
              refine V_loop1 (fun (y51 : Nat) => ⟨[(1, .ptr 0 0), (3, .d (.i .i64 0)), (4, .d (.i .i64 (y51 : Int)))], [.box [.d (.i .i64 a0_0), .d (.i .i64 a0_1), .d (.i .i64 a0_2_0), .d (.i .i64 a0_2_1), .d (.sl 5 (eEvidences a0_3))]], Tryz.f28.ntmps⟩) (fun y51 => b_sValidEv_l5 rec_sValidEv (TEvidence.mk a0_0 a0_1 (TInstanceRef.mk a0_2_0 a0_2_1) a0_3) (a0_3.drop y51)  = some r) (fun y51 => a0_3.length - y51) 0 ⟨rfl, ⟨⟨rfl, rfl⟩, ⟨rfl, rfl⟩, ⟨rfl, rfl⟩, trivial⟩, ⟨[], rfl⟩, rfl⟩ h ?_
              rintro y51 h
              refine goL ?_
              refine V_cb (fun c53 => ?_) (fun c53 => ?_)
              · have hky512 := kltN c53
                obtain ⟨x54, hx54, hdx54⟩ := drop_at hky512
                rw [hdx54, b_sValidEv_l5.eq_2] at h
                obtain ⟨x54_0, x54_1, ⟨x54_2_0, x54_2_1⟩, x54_3⟩ := x54
                refine V_skip ?_
                show V _ _ _ _ _
                refine V_seq (V_block ?_)
                refine goL ?_
                refine VO_r (QR_ixn y51 (gEvidence hx54)) ?_
                refine goL ?_
                obtain ⟨x55, hx55, h⟩ := bnd_s h
                refine VO_r (QR_call (hrec_sValidEv (TEvidence.mk x54_0 x54_1 (TInstanceRef.mk x54_2_0 x54_2_1) x54_3) hx55)) ?_
                refine goL ?_
                refine V_cb (fun c56 => ?_) (fun c56 => ?_)
                · replace h := cnd_t c56 h
                  refine goL ?_
                  refine V_ret ?_
                  replace h := Option.some.inj h
                  subst h
                  exact R_rP
                · replace h := cnd_f c56 h
                  refine V_skip ?_
                  show V _ _ _ _ _
                  refine goL ?_
                  refine VO_r (QR_inc y51 (by omega)) ?_
                  refine goL ?_
                  exact ⟨(y51 + 1), h, by omega, ⟨rfl, ⟨⟨rfl, rfl⟩, ⟨rfl, rfl⟩, ⟨rfl, rfl⟩, trivial⟩, ⟨_, rfl⟩, rfl⟩⟩
              · have hky512 := kgeN c53
                rw [drop_end hky512, b_sValidEv_l5.eq_1] at h
                refine V_exit ?_
                show V _ _ _ _ _
                refine goL ?_
                refine V_ret ?_
                replace h := Option.some.inj h
                subst h
                exact R_rP
          · replace h := cnd_f c47 h
            refine goL ?_
            refine V_ret ?_
            replace h := Option.some.inj h
            subst h
            exact R_rP
def m_sValidEv : Nat → TEvidence → Option (Bool)
  | 0, _ => none
  | n + 1, x0 => b_sValidEv (m_sValidEv n) x0
theorem s_sValidEv : ∀ (n : Nat) (x0 : TEvidence) {r : Bool}, m_sValidEv n x0 = some r → SpecP Tryz.prog 28 [.d (eEvidence x0)] [.b r] := by
  intro n
  induction n with
  | zero => intro x0 r h; cases h
  | succ n ih => intro x0 r h; exact w_sValidEv ih x0 h
def b_sEvText_l1 (rec_sEvText : TEvidence → Option (List UInt8)) : List TEvidence → (List UInt8) → Option (List UInt8)
  | [], y7 => (some y7)
  | x11 :: xs, y7 => gd (y7.length + ([32, 40] : List UInt8).length ≤ 4294967296) (
bnd (rec_sEvText x11) fun x13 =>
gd ((y7 ++ ([32, 40] : List UInt8)).length + x13.length ≤ 4294967296) (
gd (((y7 ++ ([32, 40] : List UInt8)) ++ x13).length + ([41] : List UInt8).length ≤ 4294967296) (
b_sEvText_l1 rec_sEvText xs (((y7 ++ ([32, 40] : List UInt8)) ++ x13) ++ ([41] : List UInt8)))))
def b_sEvText_l2 (rec_sEvText : TEvidence → Option (List UInt8)) : List TEvidence → (List UInt8) → Option (List UInt8)
  | [], y19 => (some y19)
  | x23 :: xs, y19 => gd (y19.length + ([32, 40] : List UInt8).length ≤ 4294967296) (
bnd (rec_sEvText x23) fun x25 =>
gd ((y19 ++ ([32, 40] : List UInt8)).length + x25.length ≤ 4294967296) (
gd (((y19 ++ ([32, 40] : List UInt8)) ++ x25).length + ([41] : List UInt8).length ≤ 4294967296) (
b_sEvText_l2 rec_sEvText xs (((y19 ++ ([32, 40] : List UInt8)) ++ x25) ++ ([41] : List UInt8)))))
def b_sEvText_l3 (rec_sEvText : TEvidence → Option (List UInt8)) : List TEvidence → (List UInt8) → Option (List UInt8)
  | [], y31 => (some y31)
  | x35 :: xs, y31 => gd (y31.length + ([32, 40] : List UInt8).length ≤ 4294967296) (
bnd (rec_sEvText x35) fun x37 =>
gd ((y31 ++ ([32, 40] : List UInt8)).length + x37.length ≤ 4294967296) (
gd (((y31 ++ ([32, 40] : List UInt8)) ++ x37).length + ([41] : List UInt8).length ≤ 4294967296) (
b_sEvText_l3 rec_sEvText xs (((y31 ++ ([32, 40] : List UInt8)) ++ x37) ++ ([41] : List UInt8)))))
def b_sEvText_l4 (rec_sEvText : TEvidence → Option (List UInt8)) : List TEvidence → (List UInt8) → Option (List UInt8)
  | [], y41 => (some y41)
  | x45 :: xs, y41 => gd (y41.length + ([32, 40] : List UInt8).length ≤ 4294967296) (
bnd (rec_sEvText x45) fun x47 =>
gd ((y41 ++ ([32, 40] : List UInt8)).length + x47.length ≤ 4294967296) (
gd (((y41 ++ ([32, 40] : List UInt8)) ++ x47).length + ([41] : List UInt8).length ≤ 4294967296) (
b_sEvText_l4 rec_sEvText xs (((y41 ++ ([32, 40] : List UInt8)) ++ x47) ++ ([41] : List UInt8)))))
def b_sEvText_l5 (rec_sEvText : TEvidence → Option (List UInt8)) : List TEvidence → (List UInt8) → Option (List UInt8)
  | [], y50 => (some y50)
  | x54 :: xs, y50 => gd (y50.length + ([32, 40] : List UInt8).length ≤ 4294967296) (
bnd (rec_sEvText x54) fun x56 =>
gd ((y50 ++ ([32, 40] : List UInt8)).length + x56.length ≤ 4294967296) (
gd (((y50 ++ ([32, 40] : List UInt8)) ++ x56).length + ([41] : List UInt8).length ≤ 4294967296) (
b_sEvText_l5 rec_sEvText xs (((y50 ++ ([32, 40] : List UInt8)) ++ x56) ++ ([41] : List UInt8)))))
def b_sEvText (rec_sEvText : TEvidence → Option (List UInt8)) (a0 : TEvidence) : Option (List UInt8) :=
(cnd (a0.kind == 1) (
gd (inRange a0.at_.package) (gd (([105, 110, 115, 116, 32] : List UInt8).length + (Lib.itoa a0.at_.package).length ≤ 4294967296) (
gd ((([105, 110, 115, 116, 32] : List UInt8) ++ (Lib.itoa a0.at_.package)).length + ([46] : List UInt8).length ≤ 4294967296) (
gd (inRange a0.at_.at_) (gd (((([105, 110, 115, 116, 32] : List UInt8) ++ (Lib.itoa a0.at_.package)) ++ ([46] : List UInt8)).length + (Lib.itoa a0.at_.at_).length ≤ 4294967296) (
b_sEvText_l1 rec_sEvText a0.args (((([105, 110, 115, 116, 32] : List UInt8) ++ (Lib.itoa a0.at_.package)) ++ ([46] : List UInt8)) ++ (Lib.itoa a0.at_.at_)))))))) (
(cnd (a0.kind == 2) (
gd (inRange a0.n) (gd (([98, 111, 117, 110, 100, 32] : List UInt8).length + (Lib.itoa a0.n).length ≤ 4294967296) (
b_sEvText_l2 rec_sEvText a0.args (([98, 111, 117, 110, 100, 32] : List UInt8) ++ (Lib.itoa a0.n))))) (
(cnd (a0.kind == 3) (
gd (inRange a0.n) (gd (([115, 117, 112, 101, 114, 32] : List UInt8).length + (Lib.itoa a0.n).length ≤ 4294967296) (
b_sEvText_l3 rec_sEvText a0.args (([115, 117, 112, 101, 114, 32] : List UInt8) ++ (Lib.itoa a0.n))))) (
(cnd (a0.kind == 4) (
b_sEvText_l4 rec_sEvText a0.args [100, 121, 110]) (
b_sEvText_l5 rec_sEvText a0.args [97, 117, 116, 111]))))))))
set_option maxHeartbeats 4000000 in
theorem w_sEvText {rec_sEvText : TEvidence → Option (List UInt8)} (hrec_sEvText : ∀ (x0 : TEvidence) {r : List UInt8}, rec_sEvText x0 = some r → SpecP Tryz.prog 29 [.d (eEvidence x0)] [.s r]) (a0 : TEvidence) {r : List UInt8} (h : b_sEvText rec_sEvText a0 = some r) : SpecP Tryz.prog 29 [.d (eEvidence a0)] [.s r] := by
  obtain ⟨a0_0, a0_1, ⟨a0_2_0, a0_2_1⟩, a0_3⟩ := a0
  unfold b_sEvText at h
  refine SpecP_intro Tryz.func29 rfl (by kernel_rfl) rfl fun A _ => ?_
  refine goL ?_
  refine V_block ?_
  refine goL ?_
  refine V_cb (fun c1 => ?_) (fun c1 => ?_)
  · replace h := cnd_t c1 h
    refine goL ?_
    obtain ⟨g2, h⟩ := gd_s h
    refine VQ_r (QR_call (t_sFormatInt a0_2_0 g2)) ?_
    obtain ⟨g3, h⟩ := gd_s h
    refine VQ_r (QR_cat g3) ?_
    obtain ⟨g4, h⟩ := gd_s h
    refine VQ_r (QR_cat g4) ?_
    refine goL ?_
    obtain ⟨g5, h⟩ := gd_s h
    refine VQ_r (QR_call (t_sFormatInt a0_2_1 g5)) ?_
    obtain ⟨g6, h⟩ := gd_s h
    refine VQ_r (QR_cat g6) ?_
    refine goL ?_
    refine V_block ?_
    show V _ _ _ _ _
    refine V_bdc 0 4 (fun z9 => ?_)
    refine V_loop2 (fun (y8 : Nat) (y7 : List UInt8) => ⟨[(1, .ptr 0 0), (3, .d (.s y7)), (4, .d (.i .i64 (y8 : Int)))], [.box [.d (.i .i64 a0_0), .d (.i .i64 a0_1), .d (.i .i64 a0_2_0), .d (.i .i64 a0_2_1), .d (.sl 5 (eEvidences a0_3))]], Tryz.f29.ntmps⟩) (fun y8 y7 => b_sEvText_l1 rec_sEvText (a0_3.drop y8) y7 = some r) (fun y8 y7 => a0_3.length - y8) 0 (((([105, 110, 115, 116, 32] : List UInt8) ++ (Lib.itoa a0_2_0)) ++ ([46] : List UInt8)) ++ (Lib.itoa a0_2_1)) ⟨rfl, ⟨⟨rfl, rfl⟩, ⟨rfl, rfl⟩, ⟨rfl, rfl⟩, trivial⟩, ⟨[], rfl⟩, rfl⟩ h ?_
    rintro y8 y7 h
    refine goL ?_
    refine V_cb (fun c10 => ?_) (fun c10 => ?_)
    · have hky82 := kltN c10
      obtain ⟨x11, hx11, hdx11⟩ := drop_at hky82
      rw [hdx11, b_sEvText_l1.eq_2] at h
      obtain ⟨x11_0, x11_1, ⟨x11_2_0, x11_2_1⟩, x11_3⟩ := x11
      refine V_skip ?_
      show V _ _ _ _ _
      refine V_seq (V_block ?_)
      refine goL ?_
      obtain ⟨g12, h⟩ := gd_s h
      refine VO_r (QR_cat g12) ?_
      refine goL ?_
      refine VO_r (QR_ixn y8 (gEvidence hx11)) ?_
      refine goL ?_
      obtain ⟨x13, hx13, h⟩ := bnd_s h
      refine VO_r (QR_call (hrec_sEvText (TEvidence.mk x11_0 x11_1 (TInstanceRef.mk x11_2_0 x11_2_1) x11_3) hx13)) ?_
      obtain ⟨g14, h⟩ := gd_s h
      refine VO_r (QR_cat g14) ?_
      obtain ⟨g15, h⟩ := gd_s h
      refine VO_r (QR_cat g15) ?_
      refine goL ?_
      refine VO_r (QR_inc y8 (by omega)) ?_
      refine goL ?_
      exact ⟨(y8 + 1), (((y7 ++ ([32, 40] : List UInt8)) ++ x13) ++ ([41] : List UInt8)), h, by omega, ⟨rfl, ⟨⟨rfl, rfl⟩, ⟨rfl, rfl⟩, ⟨rfl, rfl⟩, trivial⟩, ⟨_, rfl⟩, rfl⟩⟩
    · have hky82 := kgeN c10
      rw [drop_end hky82, b_sEvText_l1.eq_1] at h
      refine V_exit ?_
      show V _ _ _ _ _
      refine goL ?_
      refine V_ret ?_
      replace h := Option.some.inj h
      subst h
      exact R_rP
  · replace h := cnd_f c1 h
    refine goL ?_
    refine V_cb (fun c16 => ?_) (fun c16 => ?_)
    · replace h := cnd_t c16 h
      refine goL ?_
      obtain ⟨g17, h⟩ := gd_s h
      refine VO_r (QR_call (t_sFormatInt a0_1 g17)) ?_
      obtain ⟨g18, h⟩ := gd_s h
      refine VO_r (QR_cat g18) ?_
      refine goL ?_
      refine V_block ?_
      show V _ _ _ _ _
      refine V_bdc 0 4 (fun z21 => ?_)
      refine V_loop2 (fun (y20 : Nat) (y19 : List UInt8) => ⟨[(1, .ptr 0 0), (3, .d (.s y19)), (4, .d (.i .i64 (y20 : Int)))], [.box [.d (.i .i64 a0_0), .d (.i .i64 a0_1), .d (.i .i64 a0_2_0), .d (.i .i64 a0_2_1), .d (.sl 5 (eEvidences a0_3))]], Tryz.f29.ntmps⟩) (fun y20 y19 => b_sEvText_l2 rec_sEvText (a0_3.drop y20) y19 = some r) (fun y20 y19 => a0_3.length - y20) 0 (([98, 111, 117, 110, 100, 32] : List UInt8) ++ (Lib.itoa a0_1)) ⟨rfl, ⟨⟨rfl, rfl⟩, ⟨rfl, rfl⟩, ⟨rfl, rfl⟩, trivial⟩, ⟨[], rfl⟩, rfl⟩ h ?_
      rintro y20 y19 h
      refine goL ?_
      refine V_cb (fun c22 => ?_) (fun c22 => ?_)
      · have hky202 := kltN c22
        obtain ⟨x23, hx23, hdx23⟩ := drop_at hky202
        rw [hdx23, b_sEvText_l2.eq_2] at h
        obtain ⟨x23_0, x23_1, ⟨x23_2_0, x23_2_1⟩, x23_3⟩ := x23
        refine V_skip ?_
        show V _ _ _ _ _
        refine V_seq (V_block ?_)
        refine goL ?_
        obtain ⟨g24, h⟩ := gd_s h
        refine VO_r (QR_cat g24) ?_
        refine goL ?_
        refine VO_r (QR_ixn y20 (gEvidence hx23)) ?_
        refine goL ?_
        obtain ⟨x25, hx25, h⟩ := bnd_s h
        refine VO_r (QR_call (hrec_sEvText (TEvidence.mk x23_0 x23_1 (TInstanceRef.mk x23_2_0 x23_2_1) x23_3) hx25)) ?_
        obtain ⟨g26, h⟩ := gd_s h
        refine VO_r (QR_cat g26) ?_
        obtain ⟨g27, h⟩ := gd_s h
        refine VO_r (QR_cat g27) ?_
        refine goL ?_
        refine VO_r (QR_inc y20 (by omega)) ?_
        refine goL ?_
        exact ⟨(y20 + 1), (((y19 ++ ([32, 40] : List UInt8)) ++ x25) ++ ([41] : List UInt8)), h, by omega, ⟨rfl, ⟨⟨rfl, rfl⟩, ⟨rfl, rfl⟩, ⟨rfl, rfl⟩, trivial⟩, ⟨_, rfl⟩, rfl⟩⟩
      · have hky202 := kgeN c22
        rw [drop_end hky202, b_sEvText_l2.eq_1] at h
        refine V_exit ?_
        show V _ _ _ _ _
        refine goL ?_
        refine V_ret ?_
        replace h := Option.some.inj h
        subst h
        exact R_rP
    · replace h := cnd_f c16 h
      refine goL ?_
      refine V_cb (fun c28 => ?_) (fun c28 => ?_)
      · replace h := cnd_t c28 h
        refine goL ?_
        obtain ⟨g29, h⟩ := gd_s h
        refine VO_r (QR_call (t_sFormatInt a0_1 g29)) ?_
        obtain ⟨g30, h⟩ := gd_s h
        refine VO_r (QR_cat g30) ?_
        refine goL ?_
        refine V_block ?_
        show V _ _ _ _ _
        refine V_bdc 0 4 (fun z33 => ?_)
        refine V_loop2 (fun (y32 : Nat) (y31 : List UInt8) => ⟨[(1, .ptr 0 0), (3, .d (.s y31)), (4, .d (.i .i64 (y32 : Int)))], [.box [.d (.i .i64 a0_0), .d (.i .i64 a0_1), .d (.i .i64 a0_2_0), .d (.i .i64 a0_2_1), .d (.sl 5 (eEvidences a0_3))]], Tryz.f29.ntmps⟩) (fun y32 y31 => b_sEvText_l3 rec_sEvText (a0_3.drop y32) y31 = some r) (fun y32 y31 => a0_3.length - y32) 0 (([115, 117, 112, 101, 114, 32] : List UInt8) ++ (Lib.itoa a0_1)) ⟨rfl, ⟨⟨rfl, rfl⟩, ⟨rfl, rfl⟩, ⟨rfl, rfl⟩, trivial⟩, ⟨[], rfl⟩, rfl⟩ h ?_
        rintro y32 y31 h
        refine goL ?_
        refine V_cb (fun c34 => ?_) (fun c34 => ?_)
        · have hky322 := kltN c34
          obtain ⟨x35, hx35, hdx35⟩ := drop_at hky322
          rw [hdx35, b_sEvText_l3.eq_2] at h
          obtain ⟨x35_0, x35_1, ⟨x35_2_0, x35_2_1⟩, x35_3⟩ := x35
          refine V_skip ?_
          show V _ _ _ _ _
          refine V_seq (V_block ?_)
          refine goL ?_
          obtain ⟨g36, h⟩ := gd_s h
          refine VO_r (QR_cat g36) ?_
          refine goL ?_
          refine VO_r (QR_ixn y32 (gEvidence hx35)) ?_
          refine goL ?_
          obtain ⟨x37, hx37, h⟩ := bnd_s h
          refine VO_r (QR_call (hrec_sEvText (TEvidence.mk x35_0 x35_1 (TInstanceRef.mk x35_2_0 x35_2_1) x35_3) hx37)) ?_
          obtain ⟨g38, h⟩ := gd_s h
          refine VO_r (QR_cat g38) ?_
          obtain ⟨g39, h⟩ := gd_s h
          refine VO_r (QR_cat g39) ?_
          refine goL ?_
          refine VO_r (QR_inc y32 (by omega)) ?_
          refine goL ?_
          exact ⟨(y32 + 1), (((y31 ++ ([32, 40] : List UInt8)) ++ x37) ++ ([41] : List UInt8)), h, by omega, ⟨rfl, ⟨⟨rfl, rfl⟩, ⟨rfl, rfl⟩, ⟨rfl, rfl⟩, trivial⟩, ⟨_, rfl⟩, rfl⟩⟩
        · have hky322 := kgeN c34
          rw [drop_end hky322, b_sEvText_l3.eq_1] at h
          refine V_exit ?_
          show V _ _ _ _ _
          refine goL ?_
          refine V_ret ?_
          replace h := Option.some.inj h
          subst h
          exact R_rP
      · replace h := cnd_f c28 h
        refine goL ?_
        refine V_cb (fun c40 => ?_) (fun c40 => ?_)
        · replace h := cnd_t c40 h
          refine goL ?_
          refine V_block ?_
          show V _ _ _ _ _
          refine V_bdc 0 4 (fun z43 => ?_)
          refine V_loop2 (fun (y42 : Nat) (y41 : List UInt8) => ⟨[(1, .ptr 0 0), (3, .d (.s y41)), (4, .d (.i .i64 (y42 : Int)))], [.box [.d (.i .i64 a0_0), .d (.i .i64 a0_1), .d (.i .i64 a0_2_0), .d (.i .i64 a0_2_1), .d (.sl 5 (eEvidences a0_3))]], Tryz.f29.ntmps⟩) (fun y42 y41 => b_sEvText_l4 rec_sEvText (a0_3.drop y42) y41 = some r) (fun y42 y41 => a0_3.length - y42) 0 [100, 121, 110] ⟨rfl, ⟨⟨rfl, rfl⟩, ⟨rfl, rfl⟩, ⟨rfl, rfl⟩, trivial⟩, ⟨[], rfl⟩, rfl⟩ h ?_
          rintro y42 y41 h
          refine goL ?_
          refine V_cb (fun c44 => ?_) (fun c44 => ?_)
          · have hky422 := kltN c44
            obtain ⟨x45, hx45, hdx45⟩ := drop_at hky422
            rw [hdx45, b_sEvText_l4.eq_2] at h
            obtain ⟨x45_0, x45_1, ⟨x45_2_0, x45_2_1⟩, x45_3⟩ := x45
            refine V_skip ?_
            show V _ _ _ _ _
            refine V_seq (V_block ?_)
            refine goL ?_
            obtain ⟨g46, h⟩ := gd_s h
            refine VO_r (QR_cat g46) ?_
            refine goL ?_
            refine VO_r (QR_ixn y42 (gEvidence hx45)) ?_
            refine goL ?_
            obtain ⟨x47, hx47, h⟩ := bnd_s h
            refine VO_r (QR_call (hrec_sEvText (TEvidence.mk x45_0 x45_1 (TInstanceRef.mk x45_2_0 x45_2_1) x45_3) hx47)) ?_
            obtain ⟨g48, h⟩ := gd_s h
            refine VO_r (QR_cat g48) ?_
            obtain ⟨g49, h⟩ := gd_s h
            refine VO_r (QR_cat g49) ?_
            refine goL ?_
            refine VO_r (QR_inc y42 (by omega)) ?_
            refine goL ?_
            exact ⟨(y42 + 1), (((y41 ++ ([32, 40] : List UInt8)) ++ x47) ++ ([41] : List UInt8)), h, by omega, ⟨rfl, ⟨⟨rfl, rfl⟩, ⟨rfl, rfl⟩, ⟨rfl, rfl⟩, trivial⟩, ⟨_, rfl⟩, rfl⟩⟩
          · have hky422 := kgeN c44
            rw [drop_end hky422, b_sEvText_l4.eq_1] at h
            refine V_exit ?_
            show V _ _ _ _ _
            refine goL ?_
            refine V_ret ?_
            replace h := Option.some.inj h
            subst h
            exact R_rP
        · replace h := cnd_f c40 h
          refine goL ?_
          refine V_block ?_
          show V _ _ _ _ _
          refine V_bdc 0 4 (fun z52 => ?_)
          refine V_loop2 (fun (y51 : Nat) (y50 : List UInt8) => ⟨[(1, .ptr 0 0), (3, .d (.s y50)), (4, .d (.i .i64 (y51 : Int)))], [.box [.d (.i .i64 a0_0), .d (.i .i64 a0_1), .d (.i .i64 a0_2_0), .d (.i .i64 a0_2_1), .d (.sl 5 (eEvidences a0_3))]], Tryz.f29.ntmps⟩) (fun y51 y50 => b_sEvText_l5 rec_sEvText (a0_3.drop y51) y50 = some r) (fun y51 y50 => a0_3.length - y51) 0 [97, 117, 116, 111] ⟨rfl, ⟨⟨rfl, rfl⟩, ⟨rfl, rfl⟩, ⟨rfl, rfl⟩, trivial⟩, ⟨[], rfl⟩, rfl⟩ h ?_
          rintro y51 y50 h
          refine goL ?_
          refine V_cb (fun c53 => ?_) (fun c53 => ?_)
          · have hky512 := kltN c53
            obtain ⟨x54, hx54, hdx54⟩ := drop_at hky512
            rw [hdx54, b_sEvText_l5.eq_2] at h
            obtain ⟨x54_0, x54_1, ⟨x54_2_0, x54_2_1⟩, x54_3⟩ := x54
            refine V_skip ?_
            show V _ _ _ _ _
            refine V_seq (V_block ?_)
            refine goL ?_
            obtain ⟨g55, h⟩ := gd_s h
            refine VO_r (QR_cat g55) ?_
            refine goL ?_
            refine VO_r (QR_ixn y51 (gEvidence hx54)) ?_
            refine goL ?_
            obtain ⟨x56, hx56, h⟩ := bnd_s h
            refine VO_r (QR_call (hrec_sEvText (TEvidence.mk x54_0 x54_1 (TInstanceRef.mk x54_2_0 x54_2_1) x54_3) hx56)) ?_
            obtain ⟨g57, h⟩ := gd_s h
            refine VO_r (QR_cat g57) ?_
            obtain ⟨g58, h⟩ := gd_s h
            refine VO_r (QR_cat g58) ?_
            refine goL ?_
            refine VO_r (QR_inc y51 (by omega)) ?_
            refine goL ?_
            exact ⟨(y51 + 1), (((y50 ++ ([32, 40] : List UInt8)) ++ x56) ++ ([41] : List UInt8)), h, by omega, ⟨rfl, ⟨⟨rfl, rfl⟩, ⟨rfl, rfl⟩, ⟨rfl, rfl⟩, trivial⟩, ⟨_, rfl⟩, rfl⟩⟩
          · have hky512 := kgeN c53
            rw [drop_end hky512, b_sEvText_l5.eq_1] at h
            refine V_exit ?_
            show V _ _ _ _ _
            refine goL ?_
            refine V_ret ?_
            replace h := Option.some.inj h
            subst h
            exact R_rP
def m_sEvText : Nat → TEvidence → Option (List UInt8)
  | 0, _ => none
  | n + 1, x0 => b_sEvText (m_sEvText n) x0
theorem s_sEvText : ∀ (n : Nat) (x0 : TEvidence) {r : List UInt8}, m_sEvText n x0 = some r → SpecP Tryz.prog 29 [.d (eEvidence x0)] [.s r] := by
  intro n
  induction n with
  | zero => intro x0 r h; cases h
  | succ n ih => intro x0 r h; exact w_sEvText ih x0 h
def b_sFormatEv (a0 : TEvidence) : Option (List UInt8) :=
bnd (m_sValidEv 5000 a0) fun x1 =>
(cnd (!x1) (
(some [])) (
bnd (m_sEvText 5000 a0) fun x3 =>
(some x3)))
set_option maxHeartbeats 4000000 in
theorem w_sFormatEv (a0 : TEvidence) {r : List UInt8} (h : b_sFormatEv a0 = some r) : SpecP Tryz.prog 12 [.d (eEvidence a0)] [.s r] := by
  obtain ⟨a0_0, a0_1, ⟨a0_2_0, a0_2_1⟩, a0_3⟩ := a0
  unfold b_sFormatEv at h
  refine SpecP_intro Tryz.func12 rfl (by kernel_rfl) rfl fun A _ => ?_
  refine goL ?_
  obtain ⟨x1, hx1, h⟩ := bnd_s h
  refine VO_r (QR_call (s_sValidEv 5000 (TEvidence.mk a0_0 a0_1 (TInstanceRef.mk a0_2_0 a0_2_1) a0_3) hx1)) ?_
  refine goL ?_
  refine V_cb (fun c2 => ?_) (fun c2 => ?_)
  · replace h := cnd_t c2 h
    refine goL ?_
    refine V_ret ?_
    replace h := Option.some.inj h
    subst h
    exact R_rP
  · replace h := cnd_f c2 h
    refine V_skip ?_
    show V _ _ _ _ _
    refine goL ?_
    obtain ⟨x3, hx3, h⟩ := bnd_s h
    refine VO_r (QR_call (s_sEvText 5000 (TEvidence.mk a0_0 a0_1 (TInstanceRef.mk a0_2_0 a0_2_1) a0_3) hx3)) ?_
    refine goL ?_
    refine V_ret ?_
    replace h := Option.some.inj h
    subst h
    exact R_rP
def b_iCopyEvs_l1 (rec_iCopyEv : TEvidence → Option (TEvidence)) : List TEvidence → Nat → (List TEvidence) → Option (List TEvidence)
  | [], y4, y2 => (some y2)
  | x7 :: xs, y4, y2 => bnd (rec_iCopyEv x7) fun x8 =>
gd (y4 < y2.length) (
b_iCopyEvs_l1 rec_iCopyEv xs (y4 + 1) (y2.set y4 x8))
def b_iCopyEvs (rec_iCopyEvs : (List TEvidence) → Option (List TEvidence)) (rec_iCopyEv : TEvidence → Option (TEvidence)) (a0 : List TEvidence) : Option (List TEvidence) :=
gd (a0.length ≤ 4294967296) (
b_iCopyEvs_l1 rec_iCopyEv a0 0 (List.replicate a0.length (TEvidence.mk 0 0 (TInstanceRef.mk 0 0) [])))
set_option maxHeartbeats 4000000 in
theorem w_iCopyEvs {rec_iCopyEvs : (List TEvidence) → Option (List TEvidence)} {rec_iCopyEv : TEvidence → Option (TEvidence)} (hrec_iCopyEvs : ∀ (x0 : List TEvidence) {r : List TEvidence}, rec_iCopyEvs x0 = some r → SpecO Tryz.prog 60 [.d (.sl 5 (eEvidences x0))] [42] [.sl 5 (eEvidences r)]) (hrec_iCopyEv : ∀ (x0 : TEvidence) {r : TEvidence}, rec_iCopyEv x0 = some r → SpecO Tryz.prog 30 [.d (eEvidence x0)] [42] [eEvidence r]) (a0 : List TEvidence) {r : List TEvidence} (h : b_iCopyEvs rec_iCopyEvs rec_iCopyEv a0 = some r) : SpecO Tryz.prog 60 [.d (.sl 5 (eEvidences a0))] [42] [.sl 5 (eEvidences r)] := by
  unfold b_iCopyEvs at h
  refine SpecO_intro Tryz.func60 rfl (by kernel_rfl) rfl (by simp) fun A _ => ?_
  refine goL ?_
  obtain ⟨g1, h⟩ := gd_s h
  refine VO_mk (TEvidence.mk 0 0 (TInstanceRef.mk 0 0) []) g1 ?_
  refine goL ?_
  refine V_block ?_
  show V _ _ _ _ _
  refine V_bd 9 (fun z5 => ?_)
  refine V_loop3 (fun (y4 : Nat) (y2 : List TEvidence) (v3 : Nat) => ⟨[(3, .sl 0 v3), (9, .d (.sl 5 (eEvidences a0))), (10, .d (.i .i64 (a0.length : Int))), (11, .d (.i .i64 (y4 : Int)))], [.own 42 5 v3 (eEvidences y2)], Tryz.f60.ntmps⟩) (fun y4 y2 v3 => b_iCopyEvs_l1 rec_iCopyEv (a0.drop y4) y4 y2 = some r) (fun y4 y2 v3 => a0.length - y4) 0 (List.replicate a0.length (TEvidence.mk 0 0 (TInstanceRef.mk 0 0) [])) 0 ⟨rfl, ⟨⟨rfl, rfl⟩, ⟨rfl, rfl⟩, ⟨rfl, rfl⟩, ⟨rfl, rfl⟩, trivial⟩, ⟨[], rfl⟩, rfl⟩ h ?_
  rintro y4 y2 v3 h
  refine goL ?_
  refine V_seq (V_cb (fun c6 => ?_) (fun c6 => ?_))
  · have hky42 := kltN c6
    obtain ⟨x7, hx7, hdx7⟩ := drop_at hky42
    rw [hdx7, b_iCopyEvs_l1.eq_2] at h
    obtain ⟨x7_0, x7_1, ⟨x7_2_0, x7_2_1⟩, x7_3⟩ := x7
    refine V_skip ?_
    show V _ _ _ _ _
    refine V_seq (V_block ?_)
    refine goL ?_
    refine VO_r (QR_ixn y4 (gEvidence hx7)) ?_
    refine goL ?_
    obtain ⟨x8, hx8, h⟩ := bnd_s h
    obtain ⟨x8_0, x8_1, ⟨x8_2_0, x8_2_1⟩, x8_3⟩ := x8
    refine VO_co (hrec_iCopyEv (TEvidence.mk x7_0 x7_1 (TInstanceRef.mk x7_2_0 x7_2_1) x7_3) hx8) ?_
    obtain ⟨g9, h⟩ := gd_s h
    refine VO_k (Q_ixo y4 g9) ?_
    refine VO_st (TEvidence.mk x8_0 x8_1 (TInstanceRef.mk x8_2_0 x8_2_1) x8_3) g9 ?_
    refine goL ?_
    refine VO_r (QR_inc y4 (by omega)) ?_
    refine goL ?_
    exact ⟨(y4 + 1), (y2.set y4 (TEvidence.mk x8_0 x8_1 (TInstanceRef.mk x8_2_0 x8_2_1) x8_3)), v3, h, by omega, ⟨rfl, ⟨⟨rfl, rfl⟩, ⟨rfl, rfl⟩, ⟨rfl, rfl⟩, ⟨rfl, rfl⟩, trivial⟩, ⟨_, rfl⟩, rfl⟩⟩
  · have hky42 := kgeN c6
    rw [drop_end hky42, b_iCopyEvs_l1.eq_1] at h
    refine V_exit ?_
    show V _ _ _ _ _
    refine goL ?_
    refine V_ret ?_
    replace h := Option.some.inj h
    subst h
    exact R_rO
def b_iCopyEv (rec_iCopyEvs : (List TEvidence) → Option (List TEvidence)) (rec_iCopyEv : TEvidence → Option (TEvidence)) (a0 : TEvidence) : Option (TEvidence) :=
bnd (rec_iCopyEvs a0.args) fun x1 =>
(some (TEvidence.mk a0.kind a0.n a0.at_ x1))
set_option maxHeartbeats 4000000 in
theorem w_iCopyEv {rec_iCopyEvs : (List TEvidence) → Option (List TEvidence)} {rec_iCopyEv : TEvidence → Option (TEvidence)} (hrec_iCopyEvs : ∀ (x0 : List TEvidence) {r : List TEvidence}, rec_iCopyEvs x0 = some r → SpecO Tryz.prog 60 [.d (.sl 5 (eEvidences x0))] [42] [.sl 5 (eEvidences r)]) (hrec_iCopyEv : ∀ (x0 : TEvidence) {r : TEvidence}, rec_iCopyEv x0 = some r → SpecO Tryz.prog 30 [.d (eEvidence x0)] [42] [eEvidence r]) (a0 : TEvidence) {r : TEvidence} (h : b_iCopyEv rec_iCopyEvs rec_iCopyEv a0 = some r) : SpecO Tryz.prog 30 [.d (eEvidence a0)] [42] [eEvidence r] := by
  obtain ⟨a0_0, a0_1, ⟨a0_2_0, a0_2_1⟩, a0_3⟩ := a0
  unfold b_iCopyEv at h
  refine SpecO_intro Tryz.func30 rfl (by kernel_rfl) rfl (by simp) fun A _ => ?_
  refine goL ?_
  obtain ⟨x1, hx1, h⟩ := bnd_s h
  refine VO_co (hrec_iCopyEvs a0_3 hx1) ?_
  refine goL ?_
  refine V_ret ?_
  replace h := Option.some.inj h
  subst h
  exact R_rO
mutual
def m_iCopyEvs : Nat → (List TEvidence) → Option (List TEvidence)
  | 0, _ => none
  | n + 1, x0 => b_iCopyEvs (m_iCopyEvs n) (m_iCopyEv n) x0
def m_iCopyEv : Nat → TEvidence → Option (TEvidence)
  | 0, _ => none
  | n + 1, x0 => b_iCopyEv (m_iCopyEvs n) (m_iCopyEv n) x0
end
theorem ss_iCopyEvs : ∀ (n : Nat), (∀ (x0 : List TEvidence) {r : List TEvidence}, m_iCopyEvs n x0 = some r → SpecO Tryz.prog 60 [.d (.sl 5 (eEvidences x0))] [42] [.sl 5 (eEvidences r)]) ∧ (∀ (x0 : TEvidence) {r : TEvidence}, m_iCopyEv n x0 = some r → SpecO Tryz.prog 30 [.d (eEvidence x0)] [42] [eEvidence r]) := by
  intro n
  induction n with
  | zero => exact ⟨(by intro x0 r h; cases h), (by intro x0 r h; cases h)⟩
  | succ n ih =>
    obtain ⟨ih0, ih1⟩ := ih
    refine ⟨(fun x0 r h => w_iCopyEvs ih0 ih1 x0 h), (fun x0 r h => w_iCopyEv ih0 ih1 x0 h)⟩
theorem s_iCopyEv : ∀ (n : Nat) (x0 : TEvidence) {r : TEvidence}, m_iCopyEv n x0 = some r → SpecO Tryz.prog 30 [.d (eEvidence x0)] [42] [eEvidence r] := fun n => (ss_iCopyEvs n).2
def b_iApplySup_l1 : List Int → Int → Int → Int → Int → (List TEvidence) → Option (TEvidence)
  | [], y2, y3, y4, y5, y6 => (some (TEvidence.mk y2 y3 (TInstanceRef.mk y4 y5) y6))
  | x11 :: xs, y2, y3, y4, y5, y6 => b_iApplySup_l1 xs 3 x11 0 0 [(TEvidence.mk y2 y3 (TInstanceRef.mk y4 y5) y6)]
def b_iApplySup (a0 : TEvidence) (a1 : List Int) : Option (TEvidence) :=
bnd (m_iCopyEv 5000 a0) fun x1 =>
b_iApplySup_l1 a1 x1.kind x1.n x1.at_.package x1.at_.at_ x1.args
set_option maxHeartbeats 4000000 in
theorem w_iApplySup (a0 : TEvidence) (a1 : List Int) {r : TEvidence} (h : b_iApplySup a0 a1 = some r) : SpecO Tryz.prog 13 [.d (eEvidence a0), .d (.sl 1 (eInts a1))] [42] [eEvidence r] := by
  obtain ⟨a0_0, a0_1, ⟨a0_2_0, a0_2_1⟩, a0_3⟩ := a0
  unfold b_iApplySup at h
  refine SpecO_intro Tryz.func13 rfl (by kernel_rfl) rfl (by simp) fun A _ => ?_
  refine goL ?_
  obtain ⟨x1, hx1, h⟩ := bnd_s h
  obtain ⟨x1_0, x1_1, ⟨x1_2_0, x1_2_1⟩, x1_3⟩ := x1
  refine VO_co (s_iCopyEv 5000 (TEvidence.mk a0_0 a0_1 (TInstanceRef.mk a0_2_0 a0_2_1) a0_3) hx1) ?_
  refine goL ?_
  refine V_block ?_
  show V _ _ _ _ _
  refine V_bd 10 (fun z9 => ?_)
  refine V_loopR7 (fun (y8 : Nat) (y2 : Int) (y3 : Int) (y4 : Int) (y5 : Int) (y6 : List TEvidence) (v7 : Nat) => ⟨[(4, .ptr 1 0), (5, .ptr 3 0), (10, .d (.sl 1 (eInts a1))), (11, .d (.i .i64 (a1.length : Int))), (12, .d (.i .i64 (y8 : Int)))], [.box [.d (.i .i64 a0_0), .d (.i .i64 a0_1), .d (.i .i64 a0_2_0), .d (.i .i64 a0_2_1), .d (.sl 5 (eEvidences a0_3))], .box [.d (.i .i64 0), .d (.i .i64 0), .d (.i .i64 0), .d (.i .i64 0), .nilsl], .own 42 5 v7 (eEvidences y6), .box [.d (.i .i64 y2), .d (.i .i64 y3), .d (.i .i64 y4), .d (.i .i64 y5), .sl 2 v7]], Tryz.f13.ntmps⟩) (fun y8 y2 y3 y4 y5 y6 v7 => b_iApplySup_l1 (a1.drop y8) y2 y3 y4 y5 y6 = some r) (fun y8 y2 y3 y4 y5 y6 v7 => a1.length - y8) 0 x1_0 x1_1 x1_2_0 x1_2_1 x1_3 0 ⟨rfl, ⟨⟨rfl, rfl⟩, ⟨rfl, rfl⟩, ⟨rfl, rfl⟩, ⟨rfl, rfl⟩, ⟨rfl, rfl⟩, trivial⟩, ⟨[], rfl⟩, rfl⟩ h ?_
  rintro y8 y2 y3 y4 y5 y6 v7 h
  refine goL ?_
  refine V_seq (V_cb (fun c10 => ?_) (fun c10 => ?_))
  · have hky82 := kltN c10
    obtain ⟨x11, hx11, hdx11⟩ := drop_at hky82
    rw [hdx11, b_iApplySup_l1.eq_2] at h
    refine V_skip ?_
    show V _ _ _ _ _
    refine V_seq (V_block ?_)
    refine goL ?_
    refine VO_r (QR_ixn y8 (gInt hx11)) ?_
    refine goL ?_
    refine VO_l1t (TEvidence.mk y2 y3 (TInstanceRef.mk y4 y5) y6) ?_
    refine VO_k (Q_build TBd.h TZ.h rfl (by repeat constructor)) ?_
    refine goL ?_
    refine VO_r (QR_inc y8 (by omega)) ?_
    refine goL ?_
    exact ⟨(y8 + 1), 3, x11, 0, 0, [(TEvidence.mk y2 y3 (TInstanceRef.mk y4 y5) y6)], 0, h, by omega, R_pk 0 [0, 1, 4, 3]⟩
  · have hky82 := kgeN c10
    rw [drop_end hky82, b_iApplySup_l1.eq_1] at h
    refine V_exit ?_
    show V _ _ _ _ _
    refine goL ?_
    refine V_ret ?_
    replace h := Option.some.inj h
    subst h
    exact R_rO
end Go.Proofs.YtgmlpaaklnkghaaGreat
