/- Fv1. Written by a program of mine (aw.py). -/
import Derived.Test.YthojhakapbfbiaaDoorFacts
import Derived.Test.YthojhakapbfbiaaDoorDr1
set_option linter.unusedVariables false
set_option linter.unusedSimpArgs false
set_option linter.unusedSectionVars false
namespace Go.Proofs.YthojhakapbfbiaaDoor
open Go Go.Eng
attribute [local irreducible] V VO VQ VY Quiet QR SpecP SpecO MSpec Rng PostP PostO PostG
def b_iFormatInt (a0 : Int) : Option (List UInt8) :=
gd (inRange a0) ((some (Lib.itoa a0)))
set_option maxHeartbeats 4000000 in
theorem w_iFormatInt (a0 : Int) {r : List UInt8} (h : b_iFormatInt a0 = some r) : SpecP Tryd.prog 54 [.d (.i .i64 a0)] [.s r] := by
  unfold b_iFormatInt at h
  refine SpecP_intro Tryd.func54 rfl (by kernel_rfl) rfl fun A _ => ?_
  refine goL ?_
  obtain ⟨g1, h⟩ := gd_s h
  refine VO_r (QR_call (t_Itoa a0 g1)) ?_
  refine goL ?_
  refine V_ret ?_
  replace h := Option.some.inj h
  subst h
  exact R_rP
def b_iJoin (l0 : List (List UInt8)) (sep : List UInt8) : Option (List UInt8 × List (List UInt8)) :=
gd ((Lib.join l0 sep).length ≤ 4294967296) (lt_ (joinL l0 sep) fun x1 =>
(some (x1.1, x1.2)))
set_option maxHeartbeats 4000000 in
theorem w_iJoin (l0 : List (List UInt8)) (sep : List UInt8) (v0 : Nat) {r : List UInt8 × List (List UInt8)} (h : b_iJoin l0 sep = some r) : Go.Eng.Spec Tryd.prog 55 [.sl 0 v0, .d (.s sep)] [.own 9 1 v0 (eStrs l0)] (fun sv Lo => ∃ v'0, sv = .d (.s r.1) ∧ Lo = [.own 9 1 v'0 (eStrs r.2)]) := by
  unfold b_iJoin at h
  refine Spec_intro 1 Tryd.func55 rfl (by kernel_rfl) rfl rfl fun A _ => ?_
  refine goL ?_
  obtain ⟨g2, h⟩ := gd_s h
  obtain ⟨x1, hx1, h⟩ := lt_x h
  obtain ⟨x1_0, x1_1⟩ := x1
  have sx1 := t_Join l0 sep v0 g2
  rw [hx1] at sx1
  refine VO_cG [0] (sx1) ?_
  rintro _ _ ⟨v3, rfl, rfl⟩
  show VO _ _ _ _ ⟨(_, .d (.s x1_0)) :: _, [.own 9 1 v3 (eStrs x1_1)], _⟩ _
  refine goL ?_
  refine V_ret ?_
  replace h := Option.some.inj h
  subst h
  exact R_rH [.d (.s x1_0)] [.own 9 1 v3 (eStrs x1_1)] ⟨v3, rfl, rfl⟩
def b_iFV_l1 (rec_iFV : TValue → Option (List UInt8)) (a0 : TValue) : List TValue → (List (List UInt8)) → Option (List UInt8)
  | [], y6 => (cnd ((a0.args.length : Int) == 0) (
(some a0.name)) (
bnd (b_iJoin y6 [32]) fun x15 =>
gd (([40] : List UInt8).length + x15.1.length ≤ 4294967296) (
gd ((([40] : List UInt8) ++ x15.1).length + ([41] : List UInt8).length ≤ 4294967296) (
(some ((([40] : List UInt8) ++ x15.1) ++ ([41] : List UInt8)))))))
  | x11 :: xs, y6 => bnd (rec_iFV x11) fun x12 =>
gd (y6.length + [x12].length ≤ 4294967296) (
b_iFV_l1 rec_iFV a0 xs (y6 ++ [x12]))
def b_iFV (rec_iFV : TValue → Option (List UInt8)) (a0 : TValue) : Option (List UInt8) :=
(cnd (a0.kind == 1) (
bnd (b_iFormatInt a0.n) fun x2 =>
(some x2)) (
(cnd (a0.kind == 2) (
(cnd (a0.n == 1) (
(some [116, 114, 117, 101])) (
(some [102, 97, 108, 115, 101])))) (
(cnd (a0.kind == 3) (
b_iFV_l1 rec_iFV a0 a0.args [a0.name]) (
(cnd (a0.kind == 4) (
(cnd (decide ((a0.args.length : Int) > 0)) (
gd (([40, 100, 121, 110, 32] : List UInt8).length + a0.name.length ≤ 4294967296) (
gd ((([40, 100, 121, 110, 32] : List UInt8) ++ a0.name).length + ([32] : List UInt8).length ≤ 4294967296) (
bnd (at? a0.args 0) fun x23 =>
bnd (rec_iFV x23) fun x24 =>
gd (((([40, 100, 121, 110, 32] : List UInt8) ++ a0.name) ++ ([32] : List UInt8)).length + x24.length ≤ 4294967296) (
gd ((((([40, 100, 121, 110, 32] : List UInt8) ++ a0.name) ++ ([32] : List UInt8)) ++ x24).length + ([41] : List UInt8).length ≤ 4294967296) (
(some ((((([40, 100, 121, 110, 32] : List UInt8) ++ a0.name) ++ ([32] : List UInt8)) ++ x24) ++ ([41] : List UInt8)))))))) (
(some [63])))) (
(some [63])))))))))
set_option maxHeartbeats 4000000 in
theorem w_iFV {rec_iFV : TValue → Option (List UInt8)} (hrec_iFV : ∀ (x0 : TValue) {r : List UInt8}, rec_iFV x0 = some r → SpecP Tryd.prog 19 [.d (eValue x0)] [.s r]) (a0 : TValue) {r : List UInt8} (h : b_iFV rec_iFV a0 = some r) : SpecP Tryd.prog 19 [.d (eValue a0)] [.s r] := by
  obtain ⟨a0_0, a0_1, a0_2, ⟨a0_3_0, ⟨a0_3_1_0, a0_3_1_1⟩, a0_3_2, a0_3_3⟩, a0_4⟩ := a0
  unfold b_iFV at h
  refine SpecP_intro Tryd.func19 rfl (by kernel_rfl) rfl fun A _ => ?_
  refine goL ?_
  refine V_block ?_
  refine goL ?_
  refine V_cb (fun c1 => ?_) (fun c1 => ?_)
  · replace h := cnd_t c1 h
    refine goL ?_
    obtain ⟨x2, hx2, h⟩ := bnd_s h
    refine VO_r (QR_call (w_iFormatInt a0_1 hx2)) ?_
    refine goL ?_
    refine V_ret ?_
    replace h := Option.some.inj h
    subst h
    exact R_rP
  · replace h := cnd_f c1 h
    refine goL ?_
    refine V_cb (fun c3 => ?_) (fun c3 => ?_)
    · replace h := cnd_t c3 h
      refine goL ?_
      refine V_cb (fun c4 => ?_) (fun c4 => ?_)
      · replace h := cnd_t c4 h
        refine goL ?_
        refine V_ret ?_
        replace h := Option.some.inj h
        subst h
        exact R_rP
      · replace h := cnd_f c4 h
        refine V_skip ?_
        show V _ _ _ _ _
        refine goL ?_
        refine V_ret ?_
        replace h := Option.some.inj h
        subst h
        exact R_rP
    · replace h := cnd_f c3 h
      refine goL ?_
      refine V_cb (fun c5 => ?_) (fun c5 => ?_)
      · replace h := cnd_t c5 h
        refine goL ?_
        refine VO_l1t a0_2 ?_
        refine goL ?_
        refine V_block ?_
        show V _ _ _ _ _
        refine V_bd 24 (fun z9 => ?_)
        refine V_loop3 (fun (y8 : Nat) (y6 : List (List UInt8)) (v7 : Nat) => ⟨[(1, .ptr 0 0), (3, .sl 1 v7), (24, .d (.sl 9 (eValues a0_4))), (25, .d (.i .i64 (a0_4.length : Int))), (26, .d (.i .i64 (y8 : Int)))], [.box [.d (.i .i64 a0_0), .d (.i .i64 a0_1), .d (.s a0_2), .d (.i .i64 a0_3_0), .d (.i .i64 a0_3_1_0), .d (.i .i64 a0_3_1_1), .d (.sl 1 (eInts a0_3_2)), .d (.sl 5 (eDictionarys a0_3_3)), .d (.sl 9 (eValues a0_4))], .own 9 1 v7 (eStrs y6)], Tryd.f19.ntmps⟩) (fun y8 y6 v7 => b_iFV_l1 rec_iFV (TValue.mk a0_0 a0_1 a0_2 (TDictionary.mk a0_3_0 (TInstanceRef.mk a0_3_1_0 a0_3_1_1) a0_3_2 a0_3_3) a0_4) (a0_4.drop y8) y6 = some r) (fun y8 y6 v7 => a0_4.length - y8) 0 [a0_2] 0 ⟨rfl, ⟨⟨rfl, rfl⟩, ⟨rfl, rfl⟩, ⟨rfl, rfl⟩, ⟨rfl, rfl⟩, ⟨rfl, rfl⟩, trivial⟩, ⟨[], rfl⟩, rfl⟩ h ?_
        rintro y8 y6 v7 h
        refine goL ?_
        refine V_seq (V_cb (fun c10 => ?_) (fun c10 => ?_))
        · have hky82 := kltN c10
          obtain ⟨x11, hx11, hdx11⟩ := drop_at hky82
          rw [hdx11, b_iFV_l1.eq_2] at h
          obtain ⟨x11_0, x11_1, x11_2, ⟨x11_3_0, ⟨x11_3_1_0, x11_3_1_1⟩, x11_3_2, x11_3_3⟩, x11_4⟩ := x11
          refine V_skip ?_
          show V _ _ _ _ _
          refine V_seq (V_block ?_)
          refine goL ?_
          refine VO_r (QR_ixn y8 (gValue hx11)) ?_
          refine goL ?_
          obtain ⟨x12, hx12, h⟩ := bnd_s h
          refine VO_r (QR_call (hrec_iFV (TValue.mk x11_0 x11_1 x11_2 (TDictionary.mk x11_3_0 (TInstanceRef.mk x11_3_1_0 x11_3_1_1) x11_3_2 x11_3_3) x11_4) hx12)) ?_
          refine VO_l1t x12 ?_
          obtain ⟨g13, h⟩ := gd_s h
          refine VO_ap g13 ?_
          refine goL ?_
          refine VO_r (QR_inc y8 (by omega)) ?_
          refine goL ?_
          exact ⟨(y8 + 1), (y6 ++ [x12]), (v7 + 1), h, by omega, ⟨rfl, ⟨⟨rfl, rfl⟩, ⟨rfl, rfl⟩, ⟨rfl, rfl⟩, ⟨rfl, rfl⟩, ⟨rfl, rfl⟩, trivial⟩, ⟨_, rfl⟩, rfl⟩⟩
        · have hky82 := kgeN c10
          rw [drop_end hky82, b_iFV_l1.eq_1] at h
          refine V_exit ?_
          show V _ _ _ _ _
          refine goL ?_
          refine V_cb (fun c14 => ?_) (fun c14 => ?_)
          · replace h := cnd_t c14 h
            refine goL ?_
            refine V_ret ?_
            replace h := Option.some.inj h
            subst h
            exact R_rP
          · replace h := cnd_f c14 h
            refine V_skip ?_
            show V _ _ _ _ _
            refine goL ?_
            obtain ⟨x15, hx15, h⟩ := bnd_s h
            obtain ⟨x15_0, x15_1⟩ := x15
            refine VO_cG [1] (w_iJoin y6 [32] v7 hx15) ?_
            rintro _ _ ⟨v16, rfl, rfl⟩
            show VO _ _ _ _ ⟨(_, .d (.s x15_0)) :: _, [.box [.d (.i .i64 a0_0), .d (.i .i64 a0_1), .d (.s a0_2), .d (.i .i64 a0_3_0), .d (.i .i64 a0_3_1_0), .d (.i .i64 a0_3_1_1), .d (.sl 1 (eInts a0_3_2)), .d (.sl 5 (eDictionarys a0_3_3)), .d (.sl 9 (eValues a0_4))], .own 9 1 v16 (eStrs x15_1)], _⟩ _
            obtain ⟨g17, h⟩ := gd_s h
            refine VO_r (QR_cat g17) ?_
            obtain ⟨g18, h⟩ := gd_s h
            refine VO_r (QR_cat g18) ?_
            refine goL ?_
            refine V_ret ?_
            replace h := Option.some.inj h
            subst h
            exact R_rP
      · replace h := cnd_f c5 h
        refine goL ?_
        refine V_cb (fun c19 => ?_) (fun c19 => ?_)
        · replace h := cnd_t c19 h
          refine goL ?_
          refine V_cb (fun c20 => ?_) (fun c20 => ?_)
          · replace h := cnd_t c20 h
            refine goL ?_
            obtain ⟨g21, h⟩ := gd_s h
            refine VQ_r (QR_cat g21) ?_
            obtain ⟨g22, h⟩ := gd_s h
            refine VQ_r (QR_cat g22) ?_
            refine goL ?_
            obtain ⟨x23, hx23, h⟩ := bnd_s h
            obtain ⟨hx230, hx23⟩ := at_s hx23
            obtain ⟨x23_0, x23_1, x23_2, ⟨x23_3_0, ⟨x23_3_1_0, x23_3_1_1⟩, x23_3_2, x23_3_3⟩, x23_4⟩ := x23
            refine VQ_r (QR_ixi hx230 (gValue hx23)) ?_
            refine goL ?_
            obtain ⟨x24, hx24, h⟩ := bnd_s h
            refine VQ_r (QR_call (hrec_iFV (TValue.mk x23_0 x23_1 x23_2 (TDictionary.mk x23_3_0 (TInstanceRef.mk x23_3_1_0 x23_3_1_1) x23_3_2 x23_3_3) x23_4) hx24)) ?_
            obtain ⟨g25, h⟩ := gd_s h
            refine VQ_r (QR_cat g25) ?_
            obtain ⟨g26, h⟩ := gd_s h
            refine VQ_r (QR_cat g26) ?_
            refine goL ?_
            refine V_ret ?_
            replace h := Option.some.inj h
            subst h
            exact R_rP
          · replace h := cnd_f c20 h
            refine V_skip ?_
            show V _ _ _ _ _
            refine goL ?_
            refine V_ret ?_
            replace h := Option.some.inj h
            subst h
            exact R_rP
        · replace h := cnd_f c19 h
          refine V_skip ?_
          show V _ _ _ _ _
          refine goL ?_
          refine V_ret ?_
          replace h := Option.some.inj h
          subst h
          exact R_rP
def m_iFV : Nat → TValue → Option (List UInt8)
  | 0, _ => none
  | n + 1, x0 => b_iFV (m_iFV n) x0
theorem s_iFV : ∀ (n : Nat) (x0 : TValue) {r : List UInt8}, m_iFV n x0 = some r → SpecP Tryd.prog 19 [.d (eValue x0)] [.s r] := by
  intro n
  induction n with
  | zero => intro x0 r h; cases h
  | succ n ih => intro x0 r h; exact w_iFV ih x0 h
def b_sFV_l1 (rec_sFV : TValue → Option (List UInt8)) : List TValue → (List UInt8) → Option (List UInt8)
  | [], y19 => gd (y19.length + ([41] : List UInt8).length ≤ 4294967296) (
(some (y19 ++ ([41] : List UInt8))))
  | x23 :: xs, y19 => gd (y19.length + ([32] : List UInt8).length ≤ 4294967296) (
bnd (rec_sFV x23) fun x25 =>
gd ((y19 ++ ([32] : List UInt8)).length + x25.length ≤ 4294967296) (
b_sFV_l1 rec_sFV xs ((y19 ++ ([32] : List UInt8)) ++ x25)))
def b_sFV (rec_sFV : TValue → Option (List UInt8)) (a0 : TValue) : Option (List UInt8) :=
(cnd (a0.kind == 1) (
gd (inRange a0.n) ((some (Lib.itoa a0.n)))) (
(cnd (a0.kind == 2) (
(cnd (a0.n == 1) (
(some [116, 114, 117, 101])) (
(some [102, 97, 108, 115, 101])))) (
lt_ ((cnd (a0.kind == 3) (((a0.args.length : Int) == 0)) (false))) fun b5 =>
(cnd b5 (
(some a0.name)) (
lt_ ((cnd (a0.kind == 4) ((decide ((a0.args.length : Int) > 0))) (false))) fun b8 =>
(cnd b8 (
gd (([40, 100, 121, 110, 32] : List UInt8).length + a0.name.length ≤ 4294967296) (
gd ((([40, 100, 121, 110, 32] : List UInt8) ++ a0.name).length + ([32] : List UInt8).length ≤ 4294967296) (
bnd (at? a0.args 0) fun x13 =>
bnd (rec_sFV x13) fun x14 =>
gd (((([40, 100, 121, 110, 32] : List UInt8) ++ a0.name) ++ ([32] : List UInt8)).length + x14.length ≤ 4294967296) (
gd ((((([40, 100, 121, 110, 32] : List UInt8) ++ a0.name) ++ ([32] : List UInt8)) ++ x14).length + ([41] : List UInt8).length ≤ 4294967296) (
(some ((((([40, 100, 121, 110, 32] : List UInt8) ++ a0.name) ++ ([32] : List UInt8)) ++ x14) ++ ([41] : List UInt8)))))))) (
(cnd (a0.kind != 3) (
(some [63])) (
gd (([40] : List UInt8).length + a0.name.length ≤ 4294967296) (
b_sFV_l1 rec_sFV a0.args (([40] : List UInt8) ++ a0.name))))))))))))
set_option maxHeartbeats 4000000 in
theorem w_sFV {rec_sFV : TValue → Option (List UInt8)} (hrec_sFV : ∀ (x0 : TValue) {r : List UInt8}, rec_sFV x0 = some r → SpecP Tryd.prog 17 [.d (eValue x0)] [.s r]) (a0 : TValue) {r : List UInt8} (h : b_sFV rec_sFV a0 = some r) : SpecP Tryd.prog 17 [.d (eValue a0)] [.s r] := by
  obtain ⟨a0_0, a0_1, a0_2, ⟨a0_3_0, ⟨a0_3_1_0, a0_3_1_1⟩, a0_3_2, a0_3_3⟩, a0_4⟩ := a0
  unfold b_sFV at h
  refine SpecP_intro Tryd.func17 rfl (by kernel_rfl) rfl fun A _ => ?_
  refine goL ?_
  refine V_seq (V_block ?_)
  refine goL ?_
  refine V_cb (fun c1 => ?_) (fun c1 => ?_)
  · replace h := cnd_t c1 h
    refine goL ?_
    obtain ⟨g2, h⟩ := gd_s h
    refine VO_r (QR_call (t_sFormatInt a0_1 g2)) ?_
    refine goL ?_
    refine V_ret ?_
    replace h := Option.some.inj h
    subst h
    exact R_rP
  · replace h := cnd_f c1 h
    refine goL ?_
    refine V_cb (fun c3 => ?_) (fun c3 => ?_)
    · replace h := cnd_t c3 h
      refine goL ?_
      refine V_cb (fun c4 => ?_) (fun c4 => ?_)
      · replace h := cnd_t c4 h
        refine goL ?_
        refine V_ret ?_
        replace h := Option.some.inj h
        subst h
        exact R_rP
      · replace h := cnd_f c4 h
        refine V_skip ?_
        show V _ _ _ _ _
        refine goL ?_
        refine V_ret ?_
        replace h := Option.some.inj h
        subst h
        exact R_rP
    · replace h := cnd_f c3 h
      refine goL ?_
      obtain ⟨b5, hb5, h⟩ := lt_x h
      refine VO_join ⟨[(1, .ptr 0 0), (19, .d (.b b5))], [.box [.d (.i .i64 a0_0), .d (.i .i64 a0_1), .d (.s a0_2), .d (.i .i64 a0_3_0), .d (.i .i64 a0_3_1_0), .d (.i .i64 a0_3_1_1), .d (.sl 1 (eInts a0_3_2)), .d (.sl 5 (eDictionarys a0_3_3)), .d (.sl 9 (eValues a0_4))]], Tryd.f17.ntmps⟩ ?_ ?_
      · refine VO_case 23 (fun c6 => ?_) (fun c6 => ?_)
        · replace hb5 := cnd_t c6 hb5
          refine goL ?_
          cases hb5
          exact ⟨rfl, ⟨⟨rfl, rfl⟩, ⟨rfl, rfl⟩, trivial⟩, ⟨[], rfl⟩, rfl⟩
        · replace hb5 := cnd_f c6 hb5
          refine goL ?_
          cases hb5
          exact ⟨rfl, ⟨⟨rfl, rfl⟩, ⟨rfl, rfl⟩, trivial⟩, ⟨[], rfl⟩, rfl⟩
      refine goL ?_
      refine V_cb (fun c7 => ?_) (fun c7 => ?_)
      · replace h := cnd_t c7 h
        refine goL ?_
        refine V_ret ?_
        replace h := Option.some.inj h
        subst h
        exact R_rP
      · replace h := cnd_f c7 h
        refine goL ?_
        obtain ⟨b8, hb8, h⟩ := lt_x h
        refine VO_join ⟨[(1, .ptr 0 0), (31, .d (.b b8))], [.box [.d (.i .i64 a0_0), .d (.i .i64 a0_1), .d (.s a0_2), .d (.i .i64 a0_3_0), .d (.i .i64 a0_3_1_0), .d (.i .i64 a0_3_1_1), .d (.sl 1 (eInts a0_3_2)), .d (.sl 5 (eDictionarys a0_3_3)), .d (.sl 9 (eValues a0_4))]], Tryd.f17.ntmps⟩ ?_ ?_
        · refine VO_case 35 (fun c9 => ?_) (fun c9 => ?_)
          · replace hb8 := cnd_t c9 hb8
            refine goL ?_
            cases hb8
            exact ⟨rfl, ⟨⟨rfl, rfl⟩, ⟨rfl, rfl⟩, trivial⟩, ⟨[], rfl⟩, rfl⟩
          · replace hb8 := cnd_f c9 hb8
            refine goL ?_
            cases hb8
            exact ⟨rfl, ⟨⟨rfl, rfl⟩, ⟨rfl, rfl⟩, trivial⟩, ⟨[], rfl⟩, rfl⟩
        refine goL ?_
        refine V_cb (fun c10 => ?_) (fun c10 => ?_)
        · replace h := cnd_t c10 h
          refine goL ?_
          obtain ⟨g11, h⟩ := gd_s h
          refine VQ_r (QR_cat g11) ?_
          obtain ⟨g12, h⟩ := gd_s h
          refine VQ_r (QR_cat g12) ?_
          refine goL ?_
          obtain ⟨x13, hx13, h⟩ := bnd_s h
          obtain ⟨hx130, hx13⟩ := at_s hx13
          obtain ⟨x13_0, x13_1, x13_2, ⟨x13_3_0, ⟨x13_3_1_0, x13_3_1_1⟩, x13_3_2, x13_3_3⟩, x13_4⟩ := x13
          refine VQ_r (QR_ixi hx130 (gValue hx13)) ?_
          refine goL ?_
          obtain ⟨x14, hx14, h⟩ := bnd_s h
          refine VQ_r (QR_call (hrec_sFV (TValue.mk x13_0 x13_1 x13_2 (TDictionary.mk x13_3_0 (TInstanceRef.mk x13_3_1_0 x13_3_1_1) x13_3_2 x13_3_3) x13_4) hx14)) ?_
          obtain ⟨g15, h⟩ := gd_s h
          refine VQ_r (QR_cat g15) ?_
          obtain ⟨g16, h⟩ := gd_s h
          refine VQ_r (QR_cat g16) ?_
          refine goL ?_
          refine V_ret ?_
          replace h := Option.some.inj h
          subst h
          exact R_rP
        · replace h := cnd_f c10 h
          refine goL ?_
          refine V_cb (fun c17 => ?_) (fun c17 => ?_)
          · replace h := cnd_t c17 h
            refine goL ?_
            refine V_ret ?_
            replace h := Option.some.inj h
            subst h
            exact R_rP
          · replace h := cnd_f c17 h
            refine V_skip ?_
            show V _ _ _ _ _
            refine goL ?_
            obtain ⟨g18, h⟩ := gd_s h
            refine VO_r (QR_cat g18) ?_
            refine goL ?_
            refine V_block ?_
            show V _ _ _ _ _
            refine V_bdc 0 8 (fun z21 => ?_)
            refine V_loop2 (fun (y20 : Nat) (y19 : List UInt8) => ⟨[(1, .ptr 0 0), (3, .d (.s y19)), (4, .d (.i .i64 (y20 : Int)))], [.box [.d (.i .i64 a0_0), .d (.i .i64 a0_1), .d (.s a0_2), .d (.i .i64 a0_3_0), .d (.i .i64 a0_3_1_0), .d (.i .i64 a0_3_1_1), .d (.sl 1 (eInts a0_3_2)), .d (.sl 5 (eDictionarys a0_3_3)), .d (.sl 9 (eValues a0_4))]], Tryd.f17.ntmps⟩) (fun y20 y19 => b_sFV_l1 rec_sFV (a0_4.drop y20) y19 = some r) (fun y20 y19 => a0_4.length - y20) 0 (([40] : List UInt8) ++ a0_2) ⟨rfl, ⟨⟨rfl, rfl⟩, ⟨rfl, rfl⟩, ⟨rfl, rfl⟩, trivial⟩, ⟨[], rfl⟩, rfl⟩ h ?_
            rintro y20 y19 h
            refine goL ?_
            refine V_cb (fun c22 => ?_) (fun c22 => ?_)
            · have hky202 := kltN c22
              obtain ⟨x23, hx23, hdx23⟩ := drop_at hky202
              rw [hdx23, b_sFV_l1.eq_2] at h
              obtain ⟨x23_0, x23_1, x23_2, ⟨x23_3_0, ⟨x23_3_1_0, x23_3_1_1⟩, x23_3_2, x23_3_3⟩, x23_4⟩ := x23
              refine V_skip ?_
              show V _ _ _ _ _
              refine V_seq (V_block ?_)
              refine goL ?_
              obtain ⟨g24, h⟩ := gd_s h
              refine VO_r (QR_cat g24) ?_
              refine goL ?_
              refine VO_r (QR_ixn y20 (gValue hx23)) ?_
              refine goL ?_
              obtain ⟨x25, hx25, h⟩ := bnd_s h
              refine VO_r (QR_call (hrec_sFV (TValue.mk x23_0 x23_1 x23_2 (TDictionary.mk x23_3_0 (TInstanceRef.mk x23_3_1_0 x23_3_1_1) x23_3_2 x23_3_3) x23_4) hx25)) ?_
              obtain ⟨g26, h⟩ := gd_s h
              refine VO_r (QR_cat g26) ?_
              refine goL ?_
              refine VO_r (QR_inc y20 (by omega)) ?_
              refine goL ?_
              exact ⟨(y20 + 1), ((y19 ++ ([32] : List UInt8)) ++ x25), h, by omega, ⟨rfl, ⟨⟨rfl, rfl⟩, ⟨rfl, rfl⟩, ⟨rfl, rfl⟩, trivial⟩, ⟨_, rfl⟩, rfl⟩⟩
            · have hky202 := kgeN c22
              rw [drop_end hky202, b_sFV_l1.eq_1] at h
              refine V_exit ?_
              show V _ _ _ _ _
              refine goL ?_
              obtain ⟨g27, h⟩ := gd_s h
              refine VO_r (QR_cat g27) ?_
              refine goL ?_
              refine V_ret ?_
              replace h := Option.some.inj h
              subst h
              exact R_rP
def m_sFV : Nat → TValue → Option (List UInt8)
  | 0, _ => none
  | n + 1, x0 => b_sFV (m_sFV n) x0
theorem s_sFV : ∀ (n : Nat) (x0 : TValue) {r : List UInt8}, m_sFV n x0 = some r → SpecP Tryd.prog 17 [.d (eValue x0)] [.s r] := by
  intro n
  induction n with
  | zero => intro x0 r h; cases h
  | succ n ih => intro x0 r h; exact w_sFV ih x0 h
/-! ### the text of a value, by hand -/
mutual
def fvT : TValue → List UInt8
  | ⟨k, n, nm, _, args⟩ => cnd (k == 1) (Lib.itoa n) (cnd (k == 2) (cnd (n == 1) [116, 114, 117, 101] [102, 97, 108, 115, 101]) (cnd (k == 3) (cnd ((args.length : Int) == 0) nm ([40] ++ nm ++ fvs args ++ [41])) (cnd (k == 4) (cnd (decide ((args.length : Int) > 0)) ([40, 100, 121, 110, 32] ++ nm ++ [32] ++ fv1 args ++ [41]) [63]) [63])))
def fvs : List TValue → List UInt8
  | [] => []
  | a :: l => [32] ++ fvT a ++ fvs l
def fv1 : List TValue → List UInt8
  | [] => []
  | a :: _ => fvT a
end
mutual
def vnd : TValue → Nat
  | ⟨_, _, _, _, args⟩ => 1 + vnds args
def vnds : List TValue → Nat
  | [] => 0
  | a :: l => vnd a + vnds l
end
mutual
def vok : TValue → Prop
  | ⟨_, n, _, _, args⟩ => inRange n ∧ voks args
def voks : List TValue → Prop
  | [] => True
  | a :: l => vok a ∧ voks l
end
theorem voks_mem : ∀ {l : List TValue} {a : TValue}, voks l → a ∈ l → vok a
  | b :: l, a, h, hm => by
    simp only [voks] at h
    rcases List.mem_cons.1 hm with rfl | hm
    · exact h.1
    · exact voks_mem h.2 hm
theorem vnds_mem : ∀ {l : List TValue} {a : TValue}, a ∈ l → vnd a ≤ vnds l
  | b :: l, a, hm => by
    simp only [vnds]
    rcases List.mem_cons.1 hm with rfl | hm
    · omega
    · have := vnds_mem hm; omega
theorem fvs_mem : ∀ {l : List TValue} {a : TValue}, a ∈ l → (fvT a).length ≤ (fvs l).length
  | b :: l, a, hm => by
    simp only [fvs, List.length_append]
    rcases List.mem_cons.1 hm with rfl | hm
    · omega
    · have := fvs_mem hm; omega
theorem fvs_len : ∀ (l : List TValue), l.length ≤ (fvs l).length
  | [] => by simp
  | b :: l => by have := fvs_len l; simp only [fvs, List.length_append, List.length_cons, List.length_nil]; omega
theorem fvs_tail : ∀ (l : List TValue), Lib.joinTail [32] (l.map fvT) = fvs l
  | [] => by simp [Lib.joinTail, fvs]
  | b :: l => by
    have := fvs_tail l
    simp only [Lib.joinTail, List.map_cons, List.flatten_cons, fvs] at this ⊢
    rw [this]
theorem sFV_l1_eq (f : TValue → Option (List UInt8)) : ∀ (l : List TValue) (y : List UInt8), (∀ a ∈ l, f a = some (fvT a)) → y.length + (fvs l).length ≤ 4000000000 → b_sFV_l1 f l y = some (y ++ fvs l ++ [41])
  | [], y, _, hb => by
    simp only [b_sFV_l1, fvs, List.append_nil]
    rw [gd_eq (by simp [fvs] at hb ⊢; omega)]
  | a :: l, y, h, hb => by
    simp only [fvs, List.length_append, List.length_cons, List.length_nil] at hb
    simp only [b_sFV_l1]
    rw [gd_eq (by simp; omega), bnd_eq (h a (by simp)), gd_eq (by simp; omega), sFV_l1_eq f l _ (fun b hb => h b (by simp [hb])) (by simp; omega)]
    simp [fvs, List.append_assoc]
theorem iFV_l1_eq (f : TValue → Option (List UInt8)) (a0 : TValue) : ∀ (l : List TValue) (y : List (List UInt8)), (∀ a ∈ l, f a = some (fvT a)) → y.length + l.length ≤ 4000000000 → (Lib.join (y ++ l.map fvT) [32]).length ≤ 4000000000 →
    b_iFV_l1 f a0 l y = cnd ((a0.args.length : Int) == 0) (some a0.name) (some ([40] ++ Lib.join (y ++ l.map fvT) [32] ++ [41]))
  | [], y, _, _, hb => by
    simp only [List.map_nil, List.append_nil] at hb ⊢
    simp only [b_iFV_l1]
    cases (a0.args.length : Int) == 0 with
    | true => rfl
    | false =>
      simp only [cnd_false]
      have e : b_iJoin y [32] = some (Lib.join y [32], y) := by
        unfold b_iJoin
        rw [gd_eq (by omega)]
        rfl
      rw [bnd_eq e, gd_eq (by simp; omega), gd_eq (by simp; omega)]
  | a :: l, y, h, hl, hb => by
    simp only [List.length_cons] at hl
    simp only [b_iFV_l1]
    rw [bnd_eq (h a (by simp)), gd_eq (by simp; omega), iFV_l1_eq f a0 l _ (fun b hb => h b (by simp [hb])) (by simp; omega) (by simpa [List.append_assoc] using hb)]
    simp [List.append_assoc]
theorem iFV_eq : ∀ (n : Nat) (v : TValue), vok v → (fvT v).length ≤ 4000000000 → vnd v ≤ n → m_iFV n v = some (fvT v)
  | 0, ⟨k, i, nm, d, args⟩, _, _, h => by simp only [vnd] at h; omega
  | n + 1, ⟨k, i, nm, d, args⟩, hv, hb, h => by
    simp only [vnd] at h
    simp only [vok] at hv
    have ih : (fvs args).length ≤ 4000000000 → ∀ a ∈ args, m_iFV n a = some (fvT a) := fun hc a ha => iFV_eq n a (voks_mem hv.2 ha) (Nat.le_trans (fvs_mem ha) hc) (by have := vnds_mem ha; omega)
    simp only [m_iFV, b_iFV]
    simp only [fvT] at hb ⊢
    cases h1 : (k == 1) with
    | true =>
      simp only [cnd_true]
      have e : b_iFormatInt i = some (Lib.itoa i) := by unfold b_iFormatInt; rw [gd_eq hv.1]
      rw [bnd_eq e]
    | false =>
      simp only [h1, cnd_false] at hb ⊢
      cases h2 : (k == 2) with
      | true => simp only [cnd_true]; cases (i == 1) <;> rfl
      | false =>
        simp only [h2, cnd_false] at hb ⊢
        cases h3 : (k == 3) with
        | true =>
          simp only [h3, cnd_true] at hb ⊢
          cases h4 : ((args.length : Int) == 0) with
          | true =>
            have h0 : args = [] := by
              have := of_decide_eq_true h4
              exact List.eq_nil_of_length_eq_zero (by omega)
            subst h0
            simp only [h4, cnd_true] at hb
            rw [iFV_l1_eq _ _ [] [nm] (fun a ha => by cases ha) (by simp) (by simpa [Lib.join_one] using hb)]
            simp [cnd_true]
          | false =>
            simp only [h4, cnd_false, List.length_append, List.length_cons, List.length_nil] at hb
            have e : Lib.join ([nm] ++ args.map fvT) [32] = nm ++ fvs args := by
              rw [List.singleton_append, Lib.join_cons, fvs_tail]
            rw [iFV_l1_eq _ _ args [nm] (ih (by omega)) (by have := fvs_len args; simp; omega) (by rw [e]; simp; omega), e]
            simp only [h4, cnd_false]
            simp [List.append_assoc]
        | false =>
          simp only [h3, cnd_false] at hb ⊢
          cases h4 : (k == 4) with
          | false => rfl
          | true =>
            simp only [h4, cnd_true] at hb ⊢
            cases args with
            | nil => rfl
            | cons a l =>
              have h5 : decide (((a :: l).length : Int) > 0) = true := by simp only [List.length_cons]; exact decide_eq_true (by omega)
              rw [h5] at hb ⊢
              simp only [cnd_true, fv1, List.length_append, List.length_cons, List.length_nil] at hb ⊢
              have ea : m_iFV n a = some (fvT a) := iFV_eq n a (voks_mem hv.2 (by simp)) (by omega) (by simp only [vnds] at h; omega)
              rw [gd_eq (by omega), gd_eq (by omega), bnd_eq (show at? (a :: l) 0 = some a from rfl), bnd_eq ea, gd_eq (by omega), gd_eq (by omega)]
theorem sFV_eq : ∀ (n : Nat) (v : TValue), vok v → (fvT v).length ≤ 4000000000 → vnd v ≤ n → m_sFV n v = some (fvT v)
  | 0, ⟨k, i, nm, d, args⟩, _, _, h => by simp only [vnd] at h; omega
  | n + 1, ⟨k, i, nm, d, args⟩, hv, hb, h => by
    simp only [vnd] at h
    simp only [vok] at hv
    have ih : (fvs args).length ≤ 4000000000 → ∀ a ∈ args, m_sFV n a = some (fvT a) := fun hc a ha => sFV_eq n a (voks_mem hv.2 ha) (Nat.le_trans (fvs_mem ha) hc) (by have := vnds_mem ha; omega)
    simp only [m_sFV, b_sFV, lt_]
    simp only [fvT] at hb ⊢
    cases h1 : (k == 1) with
    | true => simp only [cnd_true]; rw [gd_eq hv.1]
    | false =>
      simp only [h1, cnd_false] at hb ⊢
      cases h2 : (k == 2) with
      | true => simp only [cnd_true]; cases (i == 1) <;> rfl
      | false =>
        simp only [h2, cnd_false] at hb ⊢
        cases h3 : (k == 3) with
        | true =>
          have hk : k = 3 := by simpa using h3
          subst hk
          simp only [h3, cnd_true] at hb ⊢
          cases h4 : ((args.length : Int) == 0) with
          | true => rfl
          | false =>
            simp only [h4, cnd_false, List.length_append, List.length_cons, List.length_nil] at hb
            simp only [cnd_false]
            rw [show ((3 : Int) == 4) = false from rfl, show ((3 : Int) != 3) = false from rfl]
            simp only [cnd_false]
            rw [gd_eq (by simp; omega), sFV_l1_eq _ args _ (ih (by omega)) (by simp; omega)]
        | false =>
          simp only [h3, cnd_false] at hb ⊢
          cases h4 : (k == 4) with
          | false =>
            simp only [cnd_false]
            rw [show (k != 3) = true by simpa using h3]
            rfl
          | true =>
            simp only [h4, cnd_true] at hb ⊢
            cases args with
            | nil =>
              rw [show (k != 3) = true by simpa using h3]
              rfl
            | cons a l =>
              have h5 : decide (((a :: l).length : Int) > 0) = true := by simp only [List.length_cons]; exact decide_eq_true (by omega)
              rw [h5] at hb ⊢
              simp only [cnd_true, fv1, List.length_append, List.length_cons, List.length_nil] at hb ⊢
              have ea : m_sFV n a = some (fvT a) := sFV_eq n a (voks_mem hv.2 (by simp)) (by omega) (by simp only [vnds] at h; omega)
              rw [gd_eq (by omega), gd_eq (by omega), bnd_eq (show at? (a :: l) 0 = some a from rfl), bnd_eq ea, gd_eq (by omega), gd_eq (by omega)]
mutual
theorem fvT_W : ∀ (v : TValue), vok v → (fvT v).length + 1 ≤ 64 * (1 + W (eValue v))
  | ⟨k, i, nm, d, args⟩, hv => by
    simp only [vok] at hv
    have hl : (eValues args).length = args.length := Enc.len args
    have h1 := fvs_W args hv.2
    have h2 := fv1_W args hv.2
    have h3 := Lib.itoa_length_le i hv.1.1 hv.1.2
    simp only [eValue, W, Ws]
    simp only [fvT]
    cases (k == 1) with
    | true => simp only [cnd_true]; omega
    | false =>
      simp only [cnd_false]
      cases (k == 2) with
      | true => simp only [cnd_true]; cases (i == 1) <;> simp [cnd_true, cnd_false] <;> omega
      | false =>
        simp only [cnd_false]
        cases (k == 3) with
        | true =>
          simp only [cnd_true]
          cases ((args.length : Int) == 0) with
          | true => simp only [cnd_true]; omega
          | false => simp only [cnd_false, List.length_append, List.length_cons, List.length_nil]; omega
        | false =>
          simp only [cnd_false]
          cases (k == 4) with
          | false => simp [cnd_false]; omega
          | true =>
            simp only [cnd_true]
            cases decide ((args.length : Int) > 0) with
            | true => simp only [cnd_true, List.length_append, List.length_cons, List.length_nil]; omega
            | false => simp [cnd_false]; omega
theorem fvs_W : ∀ (l : List TValue), voks l → (fvs l).length ≤ 64 * (l.length + Ws (eValues l))
  | [], _ => by simp [fvs]
  | a :: l, hv => by
    simp only [voks] at hv
    have h1 := fvT_W a hv.1
    have h2 := fvs_W l hv.2
    simp only [fvs, eValues, Ws, List.length_append, List.length_cons, List.length_nil]
    omega
theorem fv1_W : ∀ (l : List TValue), voks l → (fv1 l).length ≤ 64 * (l.length + Ws (eValues l))
  | [], _ => by simp [fv1]
  | a :: l, hv => by
    simp only [voks] at hv
    have h1 := fvT_W a hv.1
    simp only [fv1, eValues, Ws, List.length_cons]
    omega
end
mutual
theorem vok_wt : ∀ (v : TValue), wt (.st 27) (eValue v) → vok v
  | ⟨k, i, nm, d, args⟩, h => by
    obtain ⟨f0, f1, f2, f3, f4, he, h0, h1, h2, h3, h4⟩ := inv_Value h
    simp only [eValue, U.st.injEq, List.cons.injEq, U.i.injEq, true_and, and_true, U.s.injEq, U.sl.injEq] at he
    obtain ⟨rfl, rfl, rfl, rfl, rfl⟩ := he
    simp only [vok]
    exact ⟨h1, voks_wt args h4.2⟩
theorem voks_wt : ∀ (l : List TValue), (∀ u ∈ eValues l, wt (.st 27) u) → voks l
  | [], _ => trivial
  | a :: l, h => by
    simp only [eValues] at h
    simp only [voks]
    exact ⟨vok_wt a (h _ (by simp)), voks_wt l (fun u hu => h u (by simp [hu]))⟩
end
theorem bothFV {u : U} (w : wt (.st 27) u) : ∃ c0 : List UInt8, (W u ≤ 1048576 → SpecP Tryd.prog 17 [.d u] [.s c0]) ∧ (W u ≤ 1048576 → SpecP Tryd.prog 19 [.d u] [.s c0]) := by
  obtain ⟨v, rfl⟩ := ofValue u w
  have hv := vok_wt v w
  have hl := fvT_W v hv
  exact ⟨fvT v, fun h => s_sFV _ v (sFV_eq _ v hv (by omega) (Nat.le_refl _)), fun h => s_iFV _ v (iFV_eq _ v hv (by omega) (Nat.le_refl _))⟩

end Go.Proofs.YthojhakapbfbiaaDoor
