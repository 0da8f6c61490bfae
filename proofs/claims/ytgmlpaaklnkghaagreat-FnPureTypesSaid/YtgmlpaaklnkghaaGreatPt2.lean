/- Pt2. Written by a program of mine (aw.py). -/
import Derived.Test.YtgmlpaaklnkghaaGreatEng39
import Derived.Test.YtgmlpaaklnkghaaGreatPt1
set_option linter.unusedVariables false
set_option linter.unusedSimpArgs false
set_option linter.unusedSectionVars false
namespace Go.Proofs.YtgmlpaaklnkghaaGreat
open Go Go.Eng
attribute [local irreducible] V VO VQ VY Quiet QR SpecP SpecO Rng PostP PostO PostG
def b_iFormed (rec_iFormed : TType → Option (Bool)) (rec_iFormed1 : TType → Option (Bool)) (a0 : TType) : Option (Bool) :=
(cnd (a0.kind == 1) (
(cnd (a0.kind == 1) (
lt_ ((cnd (b_iValidName a0.name) (((a0.args.length : Int) == 0)) (false))) fun b3 =>
bnd ((cnd b3 (bnd (b_ContainsFuncT a0.args rec_iFormed1) fun x7 =>
(some (!x7))) ((some false)))) fun b5 =>
(some b5)) (
(cnd (a0.kind == 3) (
lt_ ((cnd (b_iValidName a0.name) (((a0.args.length : Int) == 1)) (false))) fun b9 =>
bnd ((cnd b9 (bnd (b_ContainsFuncT a0.args rec_iFormed1) fun x13 =>
(some (!x13))) ((some false)))) fun b11 =>
(some b11)) (
(cnd (a0.kind == 2) (
lt_ ((cnd (b_iValidName a0.name) ((cnd (decide ((a0.args.length : Int) ≤ 3)) (true) ((cnd (b_iBuiltIn a0.name) (((a0.args.length : Int) == 0)) (false))))) ((cnd (b_iBuiltIn a0.name) (((a0.args.length : Int) == 0)) (false))))) fun b15 =>
bnd ((cnd b15 (bnd (b_ContainsFuncT a0.args rec_iFormed1) fun x22 =>
(some (!x22))) ((some false)))) fun b20 =>
(some b20)) (
(some false)))))))) (
(cnd (a0.kind == 4) (
lt_ ((cnd (b_iValidName a0.name) (((a0.args.length : Int) == 0)) (false))) fun b24 =>
bnd ((cnd b24 (bnd (b_ContainsFuncT a0.args rec_iFormed1) fun x28 =>
(some (!x28))) ((some false)))) fun b26 =>
(some b26)) (
(cnd (a0.kind == 3) (
lt_ ((cnd (b_iValidName a0.name) (((a0.args.length : Int) == 1)) (false))) fun b30 =>
bnd ((cnd b30 (bnd (b_ContainsFuncT a0.args rec_iFormed1) fun x34 =>
(some (!x34))) ((some false)))) fun b32 =>
(some b32)) (
(cnd (a0.kind == 2) (
lt_ ((cnd (b_iValidName a0.name) ((cnd (decide ((a0.args.length : Int) ≤ 3)) (true) ((cnd (b_iBuiltIn a0.name) (((a0.args.length : Int) == 0)) (false))))) ((cnd (b_iBuiltIn a0.name) (((a0.args.length : Int) == 0)) (false))))) fun b36 =>
bnd ((cnd b36 (bnd (b_ContainsFuncT a0.args rec_iFormed1) fun x43 =>
(some (!x43))) ((some false)))) fun b41 =>
(some b41)) (
(some false)))))))))
set_option maxHeartbeats 4000000 in
theorem w_iFormed {rec_iFormed : TType → Option (Bool)} {rec_iFormed1 : TType → Option (Bool)} (hrec_iFormed : ∀ (x0 : TType) {r : Bool}, rec_iFormed x0 = some r → SpecP Tryz.prog 43 [.d (eType x0)] [.b r]) (hrec_iFormed1 : ∀ (x0 : TType) {r : Bool}, rec_iFormed1 x0 = some r → SpecP Tryz.prog 75 [.d (eType x0)] [.b r]) (a0 : TType) {r : Bool} (h : b_iFormed rec_iFormed rec_iFormed1 a0 = some r) : SpecP Tryz.prog 43 [.d (eType a0)] [.b r] := by
  obtain ⟨a0_0, a0_1, a0_2⟩ := a0
  unfold b_iFormed at h
  refine SpecP_intro Tryz.func43 rfl (by kernel_rfl) rfl fun A _ => ?_
  refine goL ?_
  refine V_block ?_
  refine goL ?_
  refine V_cb (fun c1 => ?_) (fun c1 => ?_)
  · replace h := cnd_t c1 h
    refine V_skip ?_
    show V _ _ _ _ _
    refine V_cb (fun c2 => ?_) (fun c2 => ?_)
    · replace h := cnd_t c2 h
      refine goL ?_
      refine VO_r (QR_call (w_iValidName a0_1)) ?_
      refine goL ?_
      obtain ⟨b3, hb3, h⟩ := lt_x h
      refine VO_join ⟨[(1, .ptr 0 0), (3, .d (.b b3))], [.box [.d (.i .i64 a0_0), .d (.s a0_1), .d (.sl 3 (eTypes a0_2))]], Tryz.f43.ntmps⟩ ?_ ?_
      · refine VO_case 12 (fun c4 => ?_) (fun c4 => ?_) (by first | rfl | (simp only [eTypes_len, eBindings_len]; rfl))
        · replace hb3 := cnd_t c4 hb3
          refine goL ?_
          cases hb3
          exact ⟨rfl, ⟨⟨rfl, rfl⟩, ⟨by first | rfl | (simp only [eTypes_len, eBindings_len]; rfl), rfl⟩, trivial⟩, ⟨[], rfl⟩, rfl⟩
        · replace hb3 := cnd_f c4 hb3
          refine goL ?_
          cases hb3
          exact ⟨rfl, ⟨⟨rfl, rfl⟩, ⟨by first | rfl | (simp only [eTypes_len, eBindings_len]; rfl), rfl⟩, trivial⟩, ⟨[], rfl⟩, rfl⟩
      refine goL ?_
      obtain ⟨b5, hb5, h⟩ := bnd_s h
      refine VO_join ⟨[(2, .d (.b b5))], [.box [.d (.i .i64 a0_0), .d (.s a0_1), .d (.sl 3 (eTypes a0_2))]], Tryz.f43.ntmps⟩ ?_ ?_
      · refine VO_case 52 (fun c6 => ?_) (fun c6 => ?_)
        · replace hb5 := cnd_t c6 hb5
          refine goL ?_
          refine VO_b ?_
          obtain ⟨x7, hx7, hb5⟩ := bnd_s hb5
          refine VO_r (QR_call (w_ContainsFuncT a0_2 (a1 := rec_iFormed1) (fun _ => rfl) (fun x0 r hr => hrec_iFormed1 x0 hr) hx7)) ?_
          refine goL ?_
          cases hb5
          exact ⟨rfl, ⟨⟨rfl, rfl⟩, trivial⟩, ⟨[], rfl⟩, rfl⟩
        · replace hb5 := cnd_f c6 hb5
          refine goL ?_
          cases hb5
          exact ⟨rfl, ⟨⟨rfl, rfl⟩, trivial⟩, ⟨[], rfl⟩, rfl⟩
      refine goL ?_
      refine V_ret ?_
      replace h := Option.some.inj h
      subst h
      exact R_rP
    · replace h := cnd_f c2 h
      refine goL ?_
      refine V_cb (fun c8 => ?_) (fun c8 => ?_)
      · replace h := cnd_t c8 h
        refine goL ?_
        refine VO_r (QR_call (w_iValidName a0_1)) ?_
        refine goL ?_
        obtain ⟨b9, hb9, h⟩ := lt_x h
        refine VO_join ⟨[(1, .ptr 0 0), (3, .d (.b b9))], [.box [.d (.i .i64 a0_0), .d (.s a0_1), .d (.sl 3 (eTypes a0_2))]], Tryz.f43.ntmps⟩ ?_ ?_
        · refine VO_case 23 (fun c10 => ?_) (fun c10 => ?_) (by first | rfl | (simp only [eTypes_len, eBindings_len]; rfl))
          · replace hb9 := cnd_t c10 hb9
            refine goL ?_
            cases hb9
            exact ⟨rfl, ⟨⟨rfl, rfl⟩, ⟨by first | rfl | (simp only [eTypes_len, eBindings_len]; rfl), rfl⟩, trivial⟩, ⟨[], rfl⟩, rfl⟩
          · replace hb9 := cnd_f c10 hb9
            refine goL ?_
            cases hb9
            exact ⟨rfl, ⟨⟨rfl, rfl⟩, ⟨by first | rfl | (simp only [eTypes_len, eBindings_len]; rfl), rfl⟩, trivial⟩, ⟨[], rfl⟩, rfl⟩
        refine goL ?_
        obtain ⟨b11, hb11, h⟩ := bnd_s h
        refine VO_join ⟨[(2, .d (.b b11))], [.box [.d (.i .i64 a0_0), .d (.s a0_1), .d (.sl 3 (eTypes a0_2))]], Tryz.f43.ntmps⟩ ?_ ?_
        · refine VO_case 52 (fun c12 => ?_) (fun c12 => ?_)
          · replace hb11 := cnd_t c12 hb11
            refine goL ?_
            refine VO_b ?_
            obtain ⟨x13, hx13, hb11⟩ := bnd_s hb11
            refine VO_r (QR_call (w_ContainsFuncT a0_2 (a1 := rec_iFormed1) (fun _ => rfl) (fun x0 r hr => hrec_iFormed1 x0 hr) hx13)) ?_
            refine goL ?_
            cases hb11
            exact ⟨rfl, ⟨⟨rfl, rfl⟩, trivial⟩, ⟨[], rfl⟩, rfl⟩
          · replace hb11 := cnd_f c12 hb11
            refine goL ?_
            cases hb11
            exact ⟨rfl, ⟨⟨rfl, rfl⟩, trivial⟩, ⟨[], rfl⟩, rfl⟩
        refine goL ?_
        refine V_ret ?_
        replace h := Option.some.inj h
        subst h
        exact R_rP
      · replace h := cnd_f c8 h
        refine goL ?_
        refine V_cb (fun c14 => ?_) (fun c14 => ?_)
        · replace h := cnd_t c14 h
          refine goL ?_
          refine VO_r (QR_call (w_iValidName a0_1)) ?_
          refine goL ?_
          obtain ⟨b15, hb15, h⟩ := lt_x h
          refine VO_join ⟨[(1, .ptr 0 0), (3, .d (.b b15))], [.box [.d (.i .i64 a0_0), .d (.s a0_1), .d (.sl 3 (eTypes a0_2))]], Tryz.f43.ntmps⟩ ?_ ?_
          · refine VO_case 34 (fun c16 => ?_) (fun c16 => ?_) (by first | rfl | (simp only [eTypes_len, eBindings_len]; rfl))
            · replace hb15 := cnd_t c16 hb15
              refine goL ?_
              refine VO_case 40 (fun c17 => ?_) (fun c17 => ?_) (by first | rfl | (simp only [eTypes_len, eBindings_len]; rfl))
              · replace hb15 := cnd_t c17 hb15
                refine goL ?_
                cases hb15
                exact ⟨rfl, ⟨⟨rfl, rfl⟩, ⟨by first | rfl | (simp only [eTypes_len, eBindings_len]; rfl), rfl⟩, trivial⟩, ⟨[], rfl⟩, rfl⟩
              · replace hb15 := cnd_f c17 hb15
                refine goL ?_
                refine VO_b ?_
                refine VO_r (QR_call (w_iBuiltIn a0_1)) ?_
                refine goL ?_
                refine VO_case 44 (fun c18 => ?_) (fun c18 => ?_) (by first | rfl | (simp only [eTypes_len, eBindings_len]; rfl))
                · replace hb15 := cnd_t c18 hb15
                  refine goL ?_
                  cases hb15
                  exact ⟨rfl, ⟨⟨rfl, rfl⟩, ⟨by first | rfl | (simp only [eTypes_len, eBindings_len]; rfl), rfl⟩, trivial⟩, ⟨[], rfl⟩, rfl⟩
                · replace hb15 := cnd_f c18 hb15
                  refine goL ?_
                  cases hb15
                  exact ⟨rfl, ⟨⟨rfl, rfl⟩, ⟨by first | rfl | (simp only [eTypes_len, eBindings_len]; rfl), rfl⟩, trivial⟩, ⟨[], rfl⟩, rfl⟩
            · replace hb15 := cnd_f c16 hb15
              refine goL ?_
              refine VO_b ?_
              refine VO_r (QR_call (w_iBuiltIn a0_1)) ?_
              refine goL ?_
              refine VO_case 44 (fun c19 => ?_) (fun c19 => ?_) (by first | rfl | (simp only [eTypes_len, eBindings_len]; rfl))
              · replace hb15 := cnd_t c19 hb15
                refine goL ?_
                cases hb15
                exact ⟨rfl, ⟨⟨rfl, rfl⟩, ⟨by first | rfl | (simp only [eTypes_len, eBindings_len]; rfl), rfl⟩, trivial⟩, ⟨[], rfl⟩, rfl⟩
              · replace hb15 := cnd_f c19 hb15
                refine goL ?_
                cases hb15
                exact ⟨rfl, ⟨⟨rfl, rfl⟩, ⟨by first | rfl | (simp only [eTypes_len, eBindings_len]; rfl), rfl⟩, trivial⟩, ⟨[], rfl⟩, rfl⟩
          refine goL ?_
          obtain ⟨b20, hb20, h⟩ := bnd_s h
          refine VO_join ⟨[(2, .d (.b b20))], [.box [.d (.i .i64 a0_0), .d (.s a0_1), .d (.sl 3 (eTypes a0_2))]], Tryz.f43.ntmps⟩ ?_ ?_
          · refine VO_case 52 (fun c21 => ?_) (fun c21 => ?_)
            · replace hb20 := cnd_t c21 hb20
              refine goL ?_
              refine VO_b ?_
              obtain ⟨x22, hx22, hb20⟩ := bnd_s hb20
              refine VO_r (QR_call (w_ContainsFuncT a0_2 (a1 := rec_iFormed1) (fun _ => rfl) (fun x0 r hr => hrec_iFormed1 x0 hr) hx22)) ?_
              refine goL ?_
              cases hb20
              exact ⟨rfl, ⟨⟨rfl, rfl⟩, trivial⟩, ⟨[], rfl⟩, rfl⟩
            · replace hb20 := cnd_f c21 hb20
              refine goL ?_
              cases hb20
              exact ⟨rfl, ⟨⟨rfl, rfl⟩, trivial⟩, ⟨[], rfl⟩, rfl⟩
          refine goL ?_
          refine V_ret ?_
          replace h := Option.some.inj h
          subst h
          exact R_rP
        · replace h := cnd_f c14 h
          refine V_skip ?_
          show V _ _ _ _ _
          refine goL ?_
          refine V_ret ?_
          replace h := Option.some.inj h
          subst h
          exact R_rP
  · replace h := cnd_f c1 h
    refine goL ?_
    refine V_cb (fun c23 => ?_) (fun c23 => ?_)
    · replace h := cnd_t c23 h
      refine goL ?_
      refine VO_r (QR_call (w_iValidName a0_1)) ?_
      refine goL ?_
      obtain ⟨b24, hb24, h⟩ := lt_x h
      refine VO_join ⟨[(1, .ptr 0 0), (3, .d (.b b24))], [.box [.d (.i .i64 a0_0), .d (.s a0_1), .d (.sl 3 (eTypes a0_2))]], Tryz.f43.ntmps⟩ ?_ ?_
      · refine VO_case 12 (fun c25 => ?_) (fun c25 => ?_) (by first | rfl | (simp only [eTypes_len, eBindings_len]; rfl))
        · replace hb24 := cnd_t c25 hb24
          refine goL ?_
          cases hb24
          exact ⟨rfl, ⟨⟨rfl, rfl⟩, ⟨by first | rfl | (simp only [eTypes_len, eBindings_len]; rfl), rfl⟩, trivial⟩, ⟨[], rfl⟩, rfl⟩
        · replace hb24 := cnd_f c25 hb24
          refine goL ?_
          cases hb24
          exact ⟨rfl, ⟨⟨rfl, rfl⟩, ⟨by first | rfl | (simp only [eTypes_len, eBindings_len]; rfl), rfl⟩, trivial⟩, ⟨[], rfl⟩, rfl⟩
      refine goL ?_
      obtain ⟨b26, hb26, h⟩ := bnd_s h
      refine VO_join ⟨[(2, .d (.b b26))], [.box [.d (.i .i64 a0_0), .d (.s a0_1), .d (.sl 3 (eTypes a0_2))]], Tryz.f43.ntmps⟩ ?_ ?_
      · refine VO_case 52 (fun c27 => ?_) (fun c27 => ?_)
        · replace hb26 := cnd_t c27 hb26
          refine goL ?_
          refine VO_b ?_
          obtain ⟨x28, hx28, hb26⟩ := bnd_s hb26
          refine VO_r (QR_call (w_ContainsFuncT a0_2 (a1 := rec_iFormed1) (fun _ => rfl) (fun x0 r hr => hrec_iFormed1 x0 hr) hx28)) ?_
          refine goL ?_
          cases hb26
          exact ⟨rfl, ⟨⟨rfl, rfl⟩, trivial⟩, ⟨[], rfl⟩, rfl⟩
        · replace hb26 := cnd_f c27 hb26
          refine goL ?_
          cases hb26
          exact ⟨rfl, ⟨⟨rfl, rfl⟩, trivial⟩, ⟨[], rfl⟩, rfl⟩
      refine goL ?_
      refine V_ret ?_
      replace h := Option.some.inj h
      subst h
      exact R_rP
    · replace h := cnd_f c23 h
      refine goL ?_
      refine V_cb (fun c29 => ?_) (fun c29 => ?_)
      · replace h := cnd_t c29 h
        refine goL ?_
        refine VO_r (QR_call (w_iValidName a0_1)) ?_
        refine goL ?_
        obtain ⟨b30, hb30, h⟩ := lt_x h
        refine VO_join ⟨[(1, .ptr 0 0), (3, .d (.b b30))], [.box [.d (.i .i64 a0_0), .d (.s a0_1), .d (.sl 3 (eTypes a0_2))]], Tryz.f43.ntmps⟩ ?_ ?_
        · refine VO_case 23 (fun c31 => ?_) (fun c31 => ?_) (by first | rfl | (simp only [eTypes_len, eBindings_len]; rfl))
          · replace hb30 := cnd_t c31 hb30
            refine goL ?_
            cases hb30
            exact ⟨rfl, ⟨⟨rfl, rfl⟩, ⟨by first | rfl | (simp only [eTypes_len, eBindings_len]; rfl), rfl⟩, trivial⟩, ⟨[], rfl⟩, rfl⟩
          · replace hb30 := cnd_f c31 hb30
            refine goL ?_
            cases hb30
            exact ⟨rfl, ⟨⟨rfl, rfl⟩, ⟨by first | rfl | (simp only [eTypes_len, eBindings_len]; rfl), rfl⟩, trivial⟩, ⟨[], rfl⟩, rfl⟩
        refine goL ?_
        obtain ⟨b32, hb32, h⟩ := bnd_s h
        refine VO_join ⟨[(2, .d (.b b32))], [.box [.d (.i .i64 a0_0), .d (.s a0_1), .d (.sl 3 (eTypes a0_2))]], Tryz.f43.ntmps⟩ ?_ ?_
        · refine VO_case 52 (fun c33 => ?_) (fun c33 => ?_)
          · replace hb32 := cnd_t c33 hb32
            refine goL ?_
            refine VO_b ?_
            obtain ⟨x34, hx34, hb32⟩ := bnd_s hb32
            refine VO_r (QR_call (w_ContainsFuncT a0_2 (a1 := rec_iFormed1) (fun _ => rfl) (fun x0 r hr => hrec_iFormed1 x0 hr) hx34)) ?_
            refine goL ?_
            cases hb32
            exact ⟨rfl, ⟨⟨rfl, rfl⟩, trivial⟩, ⟨[], rfl⟩, rfl⟩
          · replace hb32 := cnd_f c33 hb32
            refine goL ?_
            cases hb32
            exact ⟨rfl, ⟨⟨rfl, rfl⟩, trivial⟩, ⟨[], rfl⟩, rfl⟩
        refine goL ?_
        refine V_ret ?_
        replace h := Option.some.inj h
        subst h
        exact R_rP
      · replace h := cnd_f c29 h
        refine goL ?_
        refine V_cb (fun c35 => ?_) (fun c35 => ?_)
        · replace h := cnd_t c35 h
          refine goL ?_
          refine VO_r (QR_call (w_iValidName a0_1)) ?_
          refine goL ?_
          obtain ⟨b36, hb36, h⟩ := lt_x h
          refine VO_join ⟨[(1, .ptr 0 0), (3, .d (.b b36))], [.box [.d (.i .i64 a0_0), .d (.s a0_1), .d (.sl 3 (eTypes a0_2))]], Tryz.f43.ntmps⟩ ?_ ?_
          · refine VO_case 34 (fun c37 => ?_) (fun c37 => ?_) (by first | rfl | (simp only [eTypes_len, eBindings_len]; rfl))
            · replace hb36 := cnd_t c37 hb36
              refine goL ?_
              refine VO_case 40 (fun c38 => ?_) (fun c38 => ?_) (by first | rfl | (simp only [eTypes_len, eBindings_len]; rfl))
              · replace hb36 := cnd_t c38 hb36
                refine goL ?_
                cases hb36
                exact ⟨rfl, ⟨⟨rfl, rfl⟩, ⟨by first | rfl | (simp only [eTypes_len, eBindings_len]; rfl), rfl⟩, trivial⟩, ⟨[], rfl⟩, rfl⟩
              · replace hb36 := cnd_f c38 hb36
                refine goL ?_
                refine VO_b ?_
                refine VO_r (QR_call (w_iBuiltIn a0_1)) ?_
                refine goL ?_
                refine VO_case 44 (fun c39 => ?_) (fun c39 => ?_) (by first | rfl | (simp only [eTypes_len, eBindings_len]; rfl))
                · replace hb36 := cnd_t c39 hb36
                  refine goL ?_
                  cases hb36
                  exact ⟨rfl, ⟨⟨rfl, rfl⟩, ⟨by first | rfl | (simp only [eTypes_len, eBindings_len]; rfl), rfl⟩, trivial⟩, ⟨[], rfl⟩, rfl⟩
                · replace hb36 := cnd_f c39 hb36
                  refine goL ?_
                  cases hb36
                  exact ⟨rfl, ⟨⟨rfl, rfl⟩, ⟨by first | rfl | (simp only [eTypes_len, eBindings_len]; rfl), rfl⟩, trivial⟩, ⟨[], rfl⟩, rfl⟩
            · replace hb36 := cnd_f c37 hb36
              refine goL ?_
              refine VO_b ?_
              refine VO_r (QR_call (w_iBuiltIn a0_1)) ?_
              refine goL ?_
              refine VO_case 44 (fun c40 => ?_) (fun c40 => ?_) (by first | rfl | (simp only [eTypes_len, eBindings_len]; rfl))
              · replace hb36 := cnd_t c40 hb36
                refine goL ?_
                cases hb36
                exact ⟨rfl, ⟨⟨rfl, rfl⟩, ⟨by first | rfl | (simp only [eTypes_len, eBindings_len]; rfl), rfl⟩, trivial⟩, ⟨[], rfl⟩, rfl⟩
              · replace hb36 := cnd_f c40 hb36
                refine goL ?_
                cases hb36
                exact ⟨rfl, ⟨⟨rfl, rfl⟩, ⟨by first | rfl | (simp only [eTypes_len, eBindings_len]; rfl), rfl⟩, trivial⟩, ⟨[], rfl⟩, rfl⟩
          refine goL ?_
          obtain ⟨b41, hb41, h⟩ := bnd_s h
          refine VO_join ⟨[(2, .d (.b b41))], [.box [.d (.i .i64 a0_0), .d (.s a0_1), .d (.sl 3 (eTypes a0_2))]], Tryz.f43.ntmps⟩ ?_ ?_
          · refine VO_case 52 (fun c42 => ?_) (fun c42 => ?_)
            · replace hb41 := cnd_t c42 hb41
              refine goL ?_
              refine VO_b ?_
              obtain ⟨x43, hx43, hb41⟩ := bnd_s hb41
              refine VO_r (QR_call (w_ContainsFuncT a0_2 (a1 := rec_iFormed1) (fun _ => rfl) (fun x0 r hr => hrec_iFormed1 x0 hr) hx43)) ?_
              refine goL ?_
              cases hb41
              exact ⟨rfl, ⟨⟨rfl, rfl⟩, trivial⟩, ⟨[], rfl⟩, rfl⟩
            · replace hb41 := cnd_f c42 hb41
              refine goL ?_
              cases hb41
              exact ⟨rfl, ⟨⟨rfl, rfl⟩, trivial⟩, ⟨[], rfl⟩, rfl⟩
          refine goL ?_
          refine V_ret ?_
          replace h := Option.some.inj h
          subst h
          exact R_rP
        · replace h := cnd_f c35 h
          refine V_skip ?_
          show V _ _ _ _ _
          refine goL ?_
          refine V_ret ?_
          replace h := Option.some.inj h
          subst h
          exact R_rP
def b_iFormed1 (rec_iFormed : TType → Option (Bool)) (rec_iFormed1 : TType → Option (Bool)) (a0 : TType) : Option (Bool) :=
bnd (rec_iFormed a0) fun x1 =>
(some (!x1))
set_option maxHeartbeats 4000000 in
theorem w_iFormed1 {rec_iFormed : TType → Option (Bool)} {rec_iFormed1 : TType → Option (Bool)} (hrec_iFormed : ∀ (x0 : TType) {r : Bool}, rec_iFormed x0 = some r → SpecP Tryz.prog 43 [.d (eType x0)] [.b r]) (hrec_iFormed1 : ∀ (x0 : TType) {r : Bool}, rec_iFormed1 x0 = some r → SpecP Tryz.prog 75 [.d (eType x0)] [.b r]) (a0 : TType) {r : Bool} (h : b_iFormed1 rec_iFormed rec_iFormed1 a0 = some r) : SpecP Tryz.prog 75 [.d (eType a0)] [.b r] := by
  obtain ⟨a0_0, a0_1, a0_2⟩ := a0
  unfold b_iFormed1 at h
  refine SpecP_intro Tryz.func75 rfl (by kernel_rfl) rfl fun A _ => ?_
  refine goL ?_
  obtain ⟨x1, hx1, h⟩ := bnd_s h
  refine VO_r (QR_call (hrec_iFormed (TType.mk a0_0 a0_1 a0_2) hx1)) ?_
  refine goL ?_
  refine V_ret ?_
  replace h := Option.some.inj h
  subst h
  exact R_rP
mutual
def m_iFormed : Nat → TType → Option (Bool)
  | 0, _ => none
  | n + 1, x0 => b_iFormed (m_iFormed n) (m_iFormed1 n) x0
def m_iFormed1 : Nat → TType → Option (Bool)
  | 0, _ => none
  | n + 1, x0 => b_iFormed1 (m_iFormed n) (m_iFormed1 n) x0
end
theorem ss_iFormed : ∀ (n : Nat), (∀ (x0 : TType) {r : Bool}, m_iFormed n x0 = some r → SpecP Tryz.prog 43 [.d (eType x0)] [.b r]) ∧ (∀ (x0 : TType) {r : Bool}, m_iFormed1 n x0 = some r → SpecP Tryz.prog 75 [.d (eType x0)] [.b r]) := by
  intro n
  induction n with
  | zero => exact ⟨(by intro x0 r h; cases h), (by intro x0 r h; cases h)⟩
  | succ n ih =>
    obtain ⟨ih0, ih1⟩ := ih
    refine ⟨(fun x0 r h => w_iFormed ih0 ih1 x0 h), (fun x0 r h => w_iFormed1 ih0 ih1 x0 h)⟩
theorem s_iFormed : ∀ (n : Nat) (x0 : TType) {r : Bool}, m_iFormed n x0 = some r → SpecP Tryz.prog 43 [.d (eType x0)] [.b r] := fun n => (ss_iFormed n).1
def b_sForm_l1 (rec_sForm : TType → Option (Bool)) : List TType → Bool → Option (Bool)
  | [], y5 => (some y5)
  | x9 :: xs, y5 => bnd ((cnd y5 (bnd (rec_sForm x9) fun x12 =>
(some x12)) ((some false)))) fun b10 =>
b_sForm_l1 rec_sForm xs b10
def b_sForm_l2 (rec_sForm : TType → Option (Bool)) : List TType → Bool → Option (Bool)
  | [], y16 => (some y16)
  | x20 :: xs, y16 => bnd ((cnd y16 (bnd (rec_sForm x20) fun x23 =>
(some x23)) ((some false)))) fun b21 =>
b_sForm_l2 rec_sForm xs b21
def b_sForm_l3 (rec_sForm : TType → Option (Bool)) : List TType → Bool → Option (Bool)
  | [], y30 => (some y30)
  | x34 :: xs, y30 => bnd ((cnd y30 (bnd (rec_sForm x34) fun x37 =>
(some x37)) ((some false)))) fun b35 =>
b_sForm_l3 rec_sForm xs b35
def b_sForm_l4 (rec_sForm : TType → Option (Bool)) : List TType → Bool → Option (Bool)
  | [], y41 => (some y41)
  | x45 :: xs, y41 => bnd ((cnd y41 (bnd (rec_sForm x45) fun x48 =>
(some x48)) ((some false)))) fun b46 =>
b_sForm_l4 rec_sForm xs b46
def b_sForm_l5 (rec_sForm : TType → Option (Bool)) : List TType → Bool → Option (Bool)
  | [], y52 => (some y52)
  | x56 :: xs, y52 => bnd ((cnd y52 (bnd (rec_sForm x56) fun x59 =>
(some x59)) ((some false)))) fun b57 =>
b_sForm_l5 rec_sForm xs b57
def b_sForm_l6 (rec_sForm : TType → Option (Bool)) : List TType → Bool → Option (Bool)
  | [], y66 => (some y66)
  | x70 :: xs, y66 => bnd ((cnd y66 (bnd (rec_sForm x70) fun x73 =>
(some x73)) ((some false)))) fun b71 =>
b_sForm_l6 rec_sForm xs b71
def b_sForm (rec_sForm : TType → Option (Bool)) (a0 : TType) : Option (Bool) :=
(cnd (a0.kind == 1) (
(cnd (a0.kind == 1) (
lt_ ((cnd (b_sValidName a0.name) (((a0.args.length : Int) == 0)) (false))) fun b3 =>
b_sForm_l1 rec_sForm a0.args b3) (
(cnd (a0.kind == 3) (
lt_ ((cnd (b_sValidName a0.name) (((a0.args.length : Int) == 1)) (false))) fun b14 =>
b_sForm_l2 rec_sForm a0.args b14) (
(cnd (a0.kind == 2) (
lt_ ((cnd (b_sValidName a0.name) ((cnd (decide ((a0.args.length : Int) ≤ 3)) (true) ((cnd (b_l4Base a0.name) (((a0.args.length : Int) == 0)) (false))))) ((cnd (b_l4Base a0.name) (((a0.args.length : Int) == 0)) (false))))) fun b25 =>
b_sForm_l3 rec_sForm a0.args b25) (
(some false)))))))) (
(cnd (a0.kind == 4) (
lt_ ((cnd (b_sValidName a0.name) (((a0.args.length : Int) == 0)) (false))) fun b39 =>
b_sForm_l4 rec_sForm a0.args b39) (
(cnd (a0.kind == 3) (
lt_ ((cnd (b_sValidName a0.name) (((a0.args.length : Int) == 1)) (false))) fun b50 =>
b_sForm_l5 rec_sForm a0.args b50) (
(cnd (a0.kind == 2) (
lt_ ((cnd (b_sValidName a0.name) ((cnd (decide ((a0.args.length : Int) ≤ 3)) (true) ((cnd (b_l4Base a0.name) (((a0.args.length : Int) == 0)) (false))))) ((cnd (b_l4Base a0.name) (((a0.args.length : Int) == 0)) (false))))) fun b61 =>
b_sForm_l6 rec_sForm a0.args b61) (
(some false)))))))))
set_option maxHeartbeats 4000000 in
theorem w_sForm {rec_sForm : TType → Option (Bool)} (hrec_sForm : ∀ (x0 : TType) {r : Bool}, rec_sForm x0 = some r → SpecP Tryz.prog 63 [.d (eType x0)] [.b r]) (a0 : TType) {r : Bool} (h : b_sForm rec_sForm a0 = some r) : SpecP Tryz.prog 63 [.d (eType a0)] [.b r] := by
  obtain ⟨a0_0, a0_1, a0_2⟩ := a0
  unfold b_sForm at h
  refine SpecP_intro Tryz.func63 rfl (by kernel_rfl) rfl fun A _ => ?_
  refine goL ?_
  refine VO_r (QR_call (w_sValidName a0_1)) ?_
  refine goL ?_
  refine V_block ?_
  refine goL ?_
  refine V_cb (fun c1 => ?_) (fun c1 => ?_)
  · replace h := cnd_t c1 h
    refine V_skip ?_
    show V _ _ _ _ _
    refine V_cb (fun c2 => ?_) (fun c2 => ?_)
    · replace h := cnd_t c2 h
      refine goL ?_
      obtain ⟨b3, hb3, h⟩ := lt_x h
      refine VO_join ⟨[(1, .ptr 0 0), (3, .d (.b b3))], [.box [.d (.i .i64 a0_0), .d (.s a0_1), .d (.sl 3 (eTypes a0_2))]], Tryz.f63.ntmps⟩ ?_ ?_
      · refine VO_case 14 (fun c4 => ?_) (fun c4 => ?_) (by first | rfl | (simp only [eTypes_len, eBindings_len]; rfl))
        · replace hb3 := cnd_t c4 hb3
          refine goL ?_
          cases hb3
          exact ⟨rfl, ⟨⟨rfl, rfl⟩, ⟨by first | rfl | (simp only [eTypes_len, eBindings_len]; rfl), rfl⟩, trivial⟩, ⟨[], rfl⟩, rfl⟩
        · replace hb3 := cnd_f c4 hb3
          refine goL ?_
          cases hb3
          exact ⟨rfl, ⟨⟨rfl, rfl⟩, ⟨by first | rfl | (simp only [eTypes_len, eBindings_len]; rfl), rfl⟩, trivial⟩, ⟨[], rfl⟩, rfl⟩
      refine goL ?_
      refine V_block ?_
      show V _ _ _ _ _
      refine V_bdc 0 2 (fun z7 => ?_)
      refine V_loop2 (fun (y6 : Nat) (y5 : Bool) => ⟨[(1, .ptr 0 0), (3, .d (.b y5)), (4, .d (.i .i64 (y6 : Int)))], [.box [.d (.i .i64 a0_0), .d (.s a0_1), .d (.sl 3 (eTypes a0_2))]], Tryz.f63.ntmps⟩) (fun y6 y5 => b_sForm_l1 rec_sForm (a0_2.drop y6) y5 = some r) (fun y6 y5 => a0_2.length - y6) 0 b3 ⟨rfl, ⟨⟨rfl, rfl⟩, ⟨rfl, rfl⟩, ⟨rfl, rfl⟩, trivial⟩, ⟨[], rfl⟩, rfl⟩ h ?_
      rintro y6 y5 h
      refine goL ?_
      refine V_cb (fun c8 => ?_) (fun c8 => ?_)
      · have hky62 := kltN c8
        obtain ⟨x9, hx9, hdx9⟩ := drop_at hky62
        rw [hdx9, b_sForm_l1.eq_2] at h
        obtain ⟨x9_0, x9_1, x9_2⟩ := x9
        refine V_skip ?_
        show V _ _ _ _ _
        refine V_seq (V_block ?_)
        refine goL ?_
        obtain ⟨b10, hb10, h⟩ := bnd_s h
        refine VO_join ⟨[(1, .ptr 0 0), (4, .d (.i .i64 (y6 : Int))), (3, .d (.b b10))], [.box [.d (.i .i64 a0_0), .d (.s a0_1), .d (.sl 3 (eTypes a0_2))]], Tryz.f63.ntmps⟩ ?_ ?_
        · refine VO_case 57 (fun c11 => ?_) (fun c11 => ?_)
          · replace hb10 := cnd_t c11 hb10
            refine goL ?_
            refine VO_b ?_
            refine VO_r (QR_ixn y6 (gType hx9)) ?_
            refine goL ?_
            refine VO_b ?_
            obtain ⟨x12, hx12, hb10⟩ := bnd_s hb10
            refine VO_r (QR_call (hrec_sForm (TType.mk x9_0 x9_1 x9_2) hx12)) ?_
            refine goL ?_
            cases hb10
            exact ⟨rfl, ⟨⟨rfl, rfl⟩, ⟨rfl, rfl⟩, ⟨rfl, rfl⟩, trivial⟩, ⟨[], rfl⟩, rfl⟩
          · replace hb10 := cnd_f c11 hb10
            refine goL ?_
            cases hb10
            exact ⟨rfl, ⟨⟨rfl, rfl⟩, ⟨rfl, rfl⟩, ⟨rfl, rfl⟩, trivial⟩, ⟨[], rfl⟩, rfl⟩
        refine goL ?_
        refine VO_r (QR_inc y6 (by omega)) ?_
        refine goL ?_
        exact ⟨(y6 + 1), b10, h, by omega, ⟨rfl, ⟨⟨rfl, rfl⟩, ⟨rfl, rfl⟩, ⟨rfl, rfl⟩, trivial⟩, ⟨_, rfl⟩, rfl⟩⟩
      · have hky62 := kgeN c8
        rw [drop_end hky62, b_sForm_l1.eq_1] at h
        refine V_exit ?_
        show V _ _ _ _ _
        refine goL ?_
        refine V_ret ?_
        replace h := Option.some.inj h
        subst h
        exact R_rP
    · replace h := cnd_f c2 h
      refine goL ?_
      refine V_cb (fun c13 => ?_) (fun c13 => ?_)
      · replace h := cnd_t c13 h
        refine goL ?_
        obtain ⟨b14, hb14, h⟩ := lt_x h
        refine VO_join ⟨[(1, .ptr 0 0), (3, .d (.b b14))], [.box [.d (.i .i64 a0_0), .d (.s a0_1), .d (.sl 3 (eTypes a0_2))]], Tryz.f63.ntmps⟩ ?_ ?_
        · refine VO_case 23 (fun c15 => ?_) (fun c15 => ?_) (by first | rfl | (simp only [eTypes_len, eBindings_len]; rfl))
          · replace hb14 := cnd_t c15 hb14
            refine goL ?_
            cases hb14
            exact ⟨rfl, ⟨⟨rfl, rfl⟩, ⟨by first | rfl | (simp only [eTypes_len, eBindings_len]; rfl), rfl⟩, trivial⟩, ⟨[], rfl⟩, rfl⟩
          · replace hb14 := cnd_f c15 hb14
            refine goL ?_
            cases hb14
            exact ⟨rfl, ⟨⟨rfl, rfl⟩, ⟨by first | rfl | (simp only [eTypes_len, eBindings_len]; rfl), rfl⟩, trivial⟩, ⟨[], rfl⟩, rfl⟩
        refine goL ?_
        refine V_block ?_
        show V _ _ _ _ _
        refine V_bdc 0 2 (fun z18 => ?_)
        refine V_loop2 (fun (y17 : Nat) (y16 : Bool) => ⟨[(1, .ptr 0 0), (3, .d (.b y16)), (4, .d (.i .i64 (y17 : Int)))], [.box [.d (.i .i64 a0_0), .d (.s a0_1), .d (.sl 3 (eTypes a0_2))]], Tryz.f63.ntmps⟩) (fun y17 y16 => b_sForm_l2 rec_sForm (a0_2.drop y17) y16 = some r) (fun y17 y16 => a0_2.length - y17) 0 b14 ⟨rfl, ⟨⟨rfl, rfl⟩, ⟨rfl, rfl⟩, ⟨rfl, rfl⟩, trivial⟩, ⟨[], rfl⟩, rfl⟩ h ?_
        rintro y17 y16 h
        refine goL ?_
        refine V_cb (fun c19 => ?_) (fun c19 => ?_)
        · have hky172 := kltN c19
          obtain ⟨x20, hx20, hdx20⟩ := drop_at hky172
          rw [hdx20, b_sForm_l2.eq_2] at h
          obtain ⟨x20_0, x20_1, x20_2⟩ := x20
          refine V_skip ?_
          show V _ _ _ _ _
          refine V_seq (V_block ?_)
          refine goL ?_
          obtain ⟨b21, hb21, h⟩ := bnd_s h
          refine VO_join ⟨[(1, .ptr 0 0), (4, .d (.i .i64 (y17 : Int))), (3, .d (.b b21))], [.box [.d (.i .i64 a0_0), .d (.s a0_1), .d (.sl 3 (eTypes a0_2))]], Tryz.f63.ntmps⟩ ?_ ?_
          · refine VO_case 57 (fun c22 => ?_) (fun c22 => ?_)
            · replace hb21 := cnd_t c22 hb21
              refine goL ?_
              refine VO_b ?_
              refine VO_r (QR_ixn y17 (gType hx20)) ?_
              refine goL ?_
              refine VO_b ?_
              obtain ⟨x23, hx23, hb21⟩ := bnd_s hb21
              refine VO_r (QR_call (hrec_sForm (TType.mk x20_0 x20_1 x20_2) hx23)) ?_
              refine goL ?_
              cases hb21
              exact ⟨rfl, ⟨⟨rfl, rfl⟩, ⟨rfl, rfl⟩, ⟨rfl, rfl⟩, trivial⟩, ⟨[], rfl⟩, rfl⟩
            · replace hb21 := cnd_f c22 hb21
              refine goL ?_
              cases hb21
              exact ⟨rfl, ⟨⟨rfl, rfl⟩, ⟨rfl, rfl⟩, ⟨rfl, rfl⟩, trivial⟩, ⟨[], rfl⟩, rfl⟩
          refine goL ?_
          refine VO_r (QR_inc y17 (by omega)) ?_
          refine goL ?_
          exact ⟨(y17 + 1), b21, h, by omega, ⟨rfl, ⟨⟨rfl, rfl⟩, ⟨rfl, rfl⟩, ⟨rfl, rfl⟩, trivial⟩, ⟨_, rfl⟩, rfl⟩⟩
        · have hky172 := kgeN c19
          rw [drop_end hky172, b_sForm_l2.eq_1] at h
          refine V_exit ?_
          show V _ _ _ _ _
          refine goL ?_
          refine V_ret ?_
          replace h := Option.some.inj h
          subst h
          exact R_rP
      · replace h := cnd_f c13 h
        refine goL ?_
        refine V_cb (fun c24 => ?_) (fun c24 => ?_)
        · replace h := cnd_t c24 h
          refine goL ?_
          obtain ⟨b25, hb25, h⟩ := lt_x h
          refine VO_join ⟨[(1, .ptr 0 0), (3, .d (.b b25))], [.box [.d (.i .i64 a0_0), .d (.s a0_1), .d (.sl 3 (eTypes a0_2))]], Tryz.f63.ntmps⟩ ?_ ?_
          · refine VO_case 32 (fun c26 => ?_) (fun c26 => ?_) (by first | rfl | (simp only [eTypes_len, eBindings_len]; rfl))
            · replace hb25 := cnd_t c26 hb25
              refine goL ?_
              refine VO_case 38 (fun c27 => ?_) (fun c27 => ?_) (by first | rfl | (simp only [eTypes_len, eBindings_len]; rfl))
              · replace hb25 := cnd_t c27 hb25
                refine goL ?_
                cases hb25
                exact ⟨rfl, ⟨⟨rfl, rfl⟩, ⟨by first | rfl | (simp only [eTypes_len, eBindings_len]; rfl), rfl⟩, trivial⟩, ⟨[], rfl⟩, rfl⟩
              · replace hb25 := cnd_f c27 hb25
                refine goL ?_
                refine VO_b ?_
                refine VO_r (QR_call (w_l4Base a0_1)) ?_
                refine goL ?_
                refine VO_case 42 (fun c28 => ?_) (fun c28 => ?_) (by first | rfl | (simp only [eTypes_len, eBindings_len]; rfl))
                · replace hb25 := cnd_t c28 hb25
                  refine goL ?_
                  cases hb25
                  exact ⟨rfl, ⟨⟨rfl, rfl⟩, ⟨by first | rfl | (simp only [eTypes_len, eBindings_len]; rfl), rfl⟩, trivial⟩, ⟨[], rfl⟩, rfl⟩
                · replace hb25 := cnd_f c28 hb25
                  refine goL ?_
                  cases hb25
                  exact ⟨rfl, ⟨⟨rfl, rfl⟩, ⟨by first | rfl | (simp only [eTypes_len, eBindings_len]; rfl), rfl⟩, trivial⟩, ⟨[], rfl⟩, rfl⟩
            · replace hb25 := cnd_f c26 hb25
              refine goL ?_
              refine VO_b ?_
              refine VO_r (QR_call (w_l4Base a0_1)) ?_
              refine goL ?_
              refine VO_case 42 (fun c29 => ?_) (fun c29 => ?_) (by first | rfl | (simp only [eTypes_len, eBindings_len]; rfl))
              · replace hb25 := cnd_t c29 hb25
                refine goL ?_
                cases hb25
                exact ⟨rfl, ⟨⟨rfl, rfl⟩, ⟨by first | rfl | (simp only [eTypes_len, eBindings_len]; rfl), rfl⟩, trivial⟩, ⟨[], rfl⟩, rfl⟩
              · replace hb25 := cnd_f c29 hb25
                refine goL ?_
                cases hb25
                exact ⟨rfl, ⟨⟨rfl, rfl⟩, ⟨by first | rfl | (simp only [eTypes_len, eBindings_len]; rfl), rfl⟩, trivial⟩, ⟨[], rfl⟩, rfl⟩
          refine goL ?_
          refine V_block ?_
          show V _ _ _ _ _
          refine V_bdc 0 2 (fun z32 => ?_)
          refine V_loop2 (fun (y31 : Nat) (y30 : Bool) => ⟨[(1, .ptr 0 0), (3, .d (.b y30)), (4, .d (.i .i64 (y31 : Int)))], [.box [.d (.i .i64 a0_0), .d (.s a0_1), .d (.sl 3 (eTypes a0_2))]], Tryz.f63.ntmps⟩) (fun y31 y30 => b_sForm_l3 rec_sForm (a0_2.drop y31) y30 = some r) (fun y31 y30 => a0_2.length - y31) 0 b25 ⟨rfl, ⟨⟨rfl, rfl⟩, ⟨rfl, rfl⟩, ⟨rfl, rfl⟩, trivial⟩, ⟨[], rfl⟩, rfl⟩ h ?_
          rintro y31 y30 h
          refine goL ?_
          refine V_cb (fun c33 => ?_) (fun c33 => ?_)
          · have hky312 := kltN c33
            obtain ⟨x34, hx34, hdx34⟩ := drop_at hky312
            rw [hdx34, b_sForm_l3.eq_2] at h
            obtain ⟨x34_0, x34_1, x34_2⟩ := x34
            refine V_skip ?_
            show V _ _ _ _ _
            refine V_seq (V_block ?_)
            refine goL ?_
            obtain ⟨b35, hb35, h⟩ := bnd_s h
            refine VO_join ⟨[(1, .ptr 0 0), (4, .d (.i .i64 (y31 : Int))), (3, .d (.b b35))], [.box [.d (.i .i64 a0_0), .d (.s a0_1), .d (.sl 3 (eTypes a0_2))]], Tryz.f63.ntmps⟩ ?_ ?_
            · refine VO_case 57 (fun c36 => ?_) (fun c36 => ?_)
              · replace hb35 := cnd_t c36 hb35
                refine goL ?_
                refine VO_b ?_
                refine VO_r (QR_ixn y31 (gType hx34)) ?_
                refine goL ?_
                refine VO_b ?_
                obtain ⟨x37, hx37, hb35⟩ := bnd_s hb35
                refine VO_r (QR_call (hrec_sForm (TType.mk x34_0 x34_1 x34_2) hx37)) ?_
                refine goL ?_
                cases hb35
                exact ⟨rfl, ⟨⟨rfl, rfl⟩, ⟨rfl, rfl⟩, ⟨rfl, rfl⟩, trivial⟩, ⟨[], rfl⟩, rfl⟩
              · replace hb35 := cnd_f c36 hb35
                refine goL ?_
                cases hb35
                exact ⟨rfl, ⟨⟨rfl, rfl⟩, ⟨rfl, rfl⟩, ⟨rfl, rfl⟩, trivial⟩, ⟨[], rfl⟩, rfl⟩
            refine goL ?_
            refine VO_r (QR_inc y31 (by omega)) ?_
            refine goL ?_
            exact ⟨(y31 + 1), b35, h, by omega, ⟨rfl, ⟨⟨rfl, rfl⟩, ⟨rfl, rfl⟩, ⟨rfl, rfl⟩, trivial⟩, ⟨_, rfl⟩, rfl⟩⟩
          · have hky312 := kgeN c33
            rw [drop_end hky312, b_sForm_l3.eq_1] at h
            refine V_exit ?_
            show V _ _ _ _ _
            refine goL ?_
            refine V_ret ?_
            replace h := Option.some.inj h
            subst h
            exact R_rP
        · replace h := cnd_f c24 h
          refine goL ?_
          refine V_ret ?_
          replace h := Option.some.inj h
          subst h
          exact R_rP
  · replace h := cnd_f c1 h
    refine goL ?_
    refine V_cb (fun c38 => ?_) (fun c38 => ?_)
    · replace h := cnd_t c38 h
      refine goL ?_
      obtain ⟨b39, hb39, h⟩ := lt_x h
      refine VO_join ⟨[(1, .ptr 0 0), (3, .d (.b b39))], [.box [.d (.i .i64 a0_0), .d (.s a0_1), .d (.sl 3 (eTypes a0_2))]], Tryz.f63.ntmps⟩ ?_ ?_
      · refine VO_case 14 (fun c40 => ?_) (fun c40 => ?_) (by first | rfl | (simp only [eTypes_len, eBindings_len]; rfl))
        · replace hb39 := cnd_t c40 hb39
          refine goL ?_
          cases hb39
          exact ⟨rfl, ⟨⟨rfl, rfl⟩, ⟨by first | rfl | (simp only [eTypes_len, eBindings_len]; rfl), rfl⟩, trivial⟩, ⟨[], rfl⟩, rfl⟩
        · replace hb39 := cnd_f c40 hb39
          refine goL ?_
          cases hb39
          exact ⟨rfl, ⟨⟨rfl, rfl⟩, ⟨by first | rfl | (simp only [eTypes_len, eBindings_len]; rfl), rfl⟩, trivial⟩, ⟨[], rfl⟩, rfl⟩
      refine goL ?_
      refine V_block ?_
      show V _ _ _ _ _
      refine V_bdc 0 2 (fun z43 => ?_)
      refine V_loop2 (fun (y42 : Nat) (y41 : Bool) => ⟨[(1, .ptr 0 0), (3, .d (.b y41)), (4, .d (.i .i64 (y42 : Int)))], [.box [.d (.i .i64 a0_0), .d (.s a0_1), .d (.sl 3 (eTypes a0_2))]], Tryz.f63.ntmps⟩) (fun y42 y41 => b_sForm_l4 rec_sForm (a0_2.drop y42) y41 = some r) (fun y42 y41 => a0_2.length - y42) 0 b39 ⟨rfl, ⟨⟨rfl, rfl⟩, ⟨rfl, rfl⟩, ⟨rfl, rfl⟩, trivial⟩, ⟨[], rfl⟩, rfl⟩ h ?_
      rintro y42 y41 h
      refine goL ?_
      refine V_cb (fun c44 => ?_) (fun c44 => ?_)
      · have hky422 := kltN c44
        obtain ⟨x45, hx45, hdx45⟩ := drop_at hky422
        rw [hdx45, b_sForm_l4.eq_2] at h
        obtain ⟨x45_0, x45_1, x45_2⟩ := x45
        refine V_skip ?_
        show V _ _ _ _ _
        refine V_seq (V_block ?_)
        refine goL ?_
        obtain ⟨b46, hb46, h⟩ := bnd_s h
        refine VO_join ⟨[(1, .ptr 0 0), (4, .d (.i .i64 (y42 : Int))), (3, .d (.b b46))], [.box [.d (.i .i64 a0_0), .d (.s a0_1), .d (.sl 3 (eTypes a0_2))]], Tryz.f63.ntmps⟩ ?_ ?_
        · refine VO_case 57 (fun c47 => ?_) (fun c47 => ?_)
          · replace hb46 := cnd_t c47 hb46
            refine goL ?_
            refine VO_b ?_
            refine VO_r (QR_ixn y42 (gType hx45)) ?_
            refine goL ?_
            refine VO_b ?_
            obtain ⟨x48, hx48, hb46⟩ := bnd_s hb46
            refine VO_r (QR_call (hrec_sForm (TType.mk x45_0 x45_1 x45_2) hx48)) ?_
            refine goL ?_
            cases hb46
            exact ⟨rfl, ⟨⟨rfl, rfl⟩, ⟨rfl, rfl⟩, ⟨rfl, rfl⟩, trivial⟩, ⟨[], rfl⟩, rfl⟩
          · replace hb46 := cnd_f c47 hb46
            refine goL ?_
            cases hb46
            exact ⟨rfl, ⟨⟨rfl, rfl⟩, ⟨rfl, rfl⟩, ⟨rfl, rfl⟩, trivial⟩, ⟨[], rfl⟩, rfl⟩
        refine goL ?_
        refine VO_r (QR_inc y42 (by omega)) ?_
        refine goL ?_
        exact ⟨(y42 + 1), b46, h, by omega, ⟨rfl, ⟨⟨rfl, rfl⟩, ⟨rfl, rfl⟩, ⟨rfl, rfl⟩, trivial⟩, ⟨_, rfl⟩, rfl⟩⟩
      · have hky422 := kgeN c44
        rw [drop_end hky422, b_sForm_l4.eq_1] at h
        refine V_exit ?_
        show V _ _ _ _ _
        refine goL ?_
        refine V_ret ?_
        replace h := Option.some.inj h
        subst h
        exact R_rP
    · replace h := cnd_f c38 h
      refine goL ?_
      refine V_cb (fun c49 => ?_) (fun c49 => ?_)
      · replace h := cnd_t c49 h
        refine goL ?_
        obtain ⟨b50, hb50, h⟩ := lt_x h
        refine VO_join ⟨[(1, .ptr 0 0), (3, .d (.b b50))], [.box [.d (.i .i64 a0_0), .d (.s a0_1), .d (.sl 3 (eTypes a0_2))]], Tryz.f63.ntmps⟩ ?_ ?_
        · refine VO_case 23 (fun c51 => ?_) (fun c51 => ?_) (by first | rfl | (simp only [eTypes_len, eBindings_len]; rfl))
          · replace hb50 := cnd_t c51 hb50
            refine goL ?_
            cases hb50
            exact ⟨rfl, ⟨⟨rfl, rfl⟩, ⟨by first | rfl | (simp only [eTypes_len, eBindings_len]; rfl), rfl⟩, trivial⟩, ⟨[], rfl⟩, rfl⟩
          · replace hb50 := cnd_f c51 hb50
            refine goL ?_
            cases hb50
            exact ⟨rfl, ⟨⟨rfl, rfl⟩, ⟨by first | rfl | (simp only [eTypes_len, eBindings_len]; rfl), rfl⟩, trivial⟩, ⟨[], rfl⟩, rfl⟩
        refine goL ?_
        refine V_block ?_
        show V _ _ _ _ _
        refine V_bdc 0 2 (fun z54 => ?_)
        refine V_loop2 (fun (y53 : Nat) (y52 : Bool) => ⟨[(1, .ptr 0 0), (3, .d (.b y52)), (4, .d (.i .i64 (y53 : Int)))], [.box [.d (.i .i64 a0_0), .d (.s a0_1), .d (.sl 3 (eTypes a0_2))]], Tryz.f63.ntmps⟩) (fun y53 y52 => b_sForm_l5 rec_sForm (a0_2.drop y53) y52 = some r) (fun y53 y52 => a0_2.length - y53) 0 b50 ⟨rfl, ⟨⟨rfl, rfl⟩, ⟨rfl, rfl⟩, ⟨rfl, rfl⟩, trivial⟩, ⟨[], rfl⟩, rfl⟩ h ?_
        rintro y53 y52 h
        refine goL ?_
        refine V_cb (fun c55 => ?_) (fun c55 => ?_)
        · have hky532 := kltN c55
          obtain ⟨x56, hx56, hdx56⟩ := drop_at hky532
          rw [hdx56, b_sForm_l5.eq_2] at h
          obtain ⟨x56_0, x56_1, x56_2⟩ := x56
          refine V_skip ?_
          show V _ _ _ _ _
          refine V_seq (V_block ?_)
          refine goL ?_
          obtain ⟨b57, hb57, h⟩ := bnd_s h
          refine VO_join ⟨[(1, .ptr 0 0), (4, .d (.i .i64 (y53 : Int))), (3, .d (.b b57))], [.box [.d (.i .i64 a0_0), .d (.s a0_1), .d (.sl 3 (eTypes a0_2))]], Tryz.f63.ntmps⟩ ?_ ?_
          · refine VO_case 57 (fun c58 => ?_) (fun c58 => ?_)
            · replace hb57 := cnd_t c58 hb57
              refine goL ?_
              refine VO_b ?_
              refine VO_r (QR_ixn y53 (gType hx56)) ?_
              refine goL ?_
              refine VO_b ?_
              obtain ⟨x59, hx59, hb57⟩ := bnd_s hb57
              refine VO_r (QR_call (hrec_sForm (TType.mk x56_0 x56_1 x56_2) hx59)) ?_
              refine goL ?_
              cases hb57
              exact ⟨rfl, ⟨⟨rfl, rfl⟩, ⟨rfl, rfl⟩, ⟨rfl, rfl⟩, trivial⟩, ⟨[], rfl⟩, rfl⟩
            · replace hb57 := cnd_f c58 hb57
              refine goL ?_
              cases hb57
              exact ⟨rfl, ⟨⟨rfl, rfl⟩, ⟨rfl, rfl⟩, ⟨rfl, rfl⟩, trivial⟩, ⟨[], rfl⟩, rfl⟩
          refine goL ?_
          refine VO_r (QR_inc y53 (by omega)) ?_
          refine goL ?_
          exact ⟨(y53 + 1), b57, h, by omega, ⟨rfl, ⟨⟨rfl, rfl⟩, ⟨rfl, rfl⟩, ⟨rfl, rfl⟩, trivial⟩, ⟨_, rfl⟩, rfl⟩⟩
        · have hky532 := kgeN c55
          rw [drop_end hky532, b_sForm_l5.eq_1] at h
          refine V_exit ?_
          show V _ _ _ _ _
          refine goL ?_
          refine V_ret ?_
          replace h := Option.some.inj h
          subst h
          exact R_rP
      · replace h := cnd_f c49 h
        refine goL ?_
        refine V_cb (fun c60 => ?_) (fun c60 => ?_)
        · replace h := cnd_t c60 h
          refine goL ?_
          obtain ⟨b61, hb61, h⟩ := lt_x h
          refine VO_join ⟨[(1, .ptr 0 0), (3, .d (.b b61))], [.box [.d (.i .i64 a0_0), .d (.s a0_1), .d (.sl 3 (eTypes a0_2))]], Tryz.f63.ntmps⟩ ?_ ?_
          · refine VO_case 32 (fun c62 => ?_) (fun c62 => ?_) (by first | rfl | (simp only [eTypes_len, eBindings_len]; rfl))
            · replace hb61 := cnd_t c62 hb61
              refine goL ?_
              refine VO_case 38 (fun c63 => ?_) (fun c63 => ?_) (by first | rfl | (simp only [eTypes_len, eBindings_len]; rfl))
              · replace hb61 := cnd_t c63 hb61
                refine goL ?_
                cases hb61
                exact ⟨rfl, ⟨⟨rfl, rfl⟩, ⟨by first | rfl | (simp only [eTypes_len, eBindings_len]; rfl), rfl⟩, trivial⟩, ⟨[], rfl⟩, rfl⟩
              · replace hb61 := cnd_f c63 hb61
                refine goL ?_
                refine VO_b ?_
                refine VO_r (QR_call (w_l4Base a0_1)) ?_
                refine goL ?_
                refine VO_case 42 (fun c64 => ?_) (fun c64 => ?_) (by first | rfl | (simp only [eTypes_len, eBindings_len]; rfl))
                · replace hb61 := cnd_t c64 hb61
                  refine goL ?_
                  cases hb61
                  exact ⟨rfl, ⟨⟨rfl, rfl⟩, ⟨by first | rfl | (simp only [eTypes_len, eBindings_len]; rfl), rfl⟩, trivial⟩, ⟨[], rfl⟩, rfl⟩
                · replace hb61 := cnd_f c64 hb61
                  refine goL ?_
                  cases hb61
                  exact ⟨rfl, ⟨⟨rfl, rfl⟩, ⟨by first | rfl | (simp only [eTypes_len, eBindings_len]; rfl), rfl⟩, trivial⟩, ⟨[], rfl⟩, rfl⟩
            · replace hb61 := cnd_f c62 hb61
              refine goL ?_
              refine VO_b ?_
              refine VO_r (QR_call (w_l4Base a0_1)) ?_
              refine goL ?_
              refine VO_case 42 (fun c65 => ?_) (fun c65 => ?_) (by first | rfl | (simp only [eTypes_len, eBindings_len]; rfl))
              · replace hb61 := cnd_t c65 hb61
                refine goL ?_
                cases hb61
                exact ⟨rfl, ⟨⟨rfl, rfl⟩, ⟨by first | rfl | (simp only [eTypes_len, eBindings_len]; rfl), rfl⟩, trivial⟩, ⟨[], rfl⟩, rfl⟩
              · replace hb61 := cnd_f c65 hb61
                refine goL ?_
                cases hb61
                exact ⟨rfl, ⟨⟨rfl, rfl⟩, ⟨by first | rfl | (simp only [eTypes_len, eBindings_len]; rfl), rfl⟩, trivial⟩, ⟨[], rfl⟩, rfl⟩
          refine goL ?_
          refine V_block ?_
          show V _ _ _ _ _
          refine V_bdc 0 2 (fun z68 => ?_)
          refine V_loop2 (fun (y67 : Nat) (y66 : Bool) => ⟨[(1, .ptr 0 0), (3, .d (.b y66)), (4, .d (.i .i64 (y67 : Int)))], [.box [.d (.i .i64 a0_0), .d (.s a0_1), .d (.sl 3 (eTypes a0_2))]], Tryz.f63.ntmps⟩) (fun y67 y66 => b_sForm_l6 rec_sForm (a0_2.drop y67) y66 = some r) (fun y67 y66 => a0_2.length - y67) 0 b61 ⟨rfl, ⟨⟨rfl, rfl⟩, ⟨rfl, rfl⟩, ⟨rfl, rfl⟩, trivial⟩, ⟨[], rfl⟩, rfl⟩ h ?_
          rintro y67 y66 h
          refine goL ?_
          refine V_cb (fun c69 => ?_) (fun c69 => ?_)
          · have hky672 := kltN c69
            obtain ⟨x70, hx70, hdx70⟩ := drop_at hky672
            rw [hdx70, b_sForm_l6.eq_2] at h
            obtain ⟨x70_0, x70_1, x70_2⟩ := x70
            refine V_skip ?_
            show V _ _ _ _ _
            refine V_seq (V_block ?_)
            refine goL ?_
            obtain ⟨b71, hb71, h⟩ := bnd_s h
            refine VO_join ⟨[(1, .ptr 0 0), (4, .d (.i .i64 (y67 : Int))), (3, .d (.b b71))], [.box [.d (.i .i64 a0_0), .d (.s a0_1), .d (.sl 3 (eTypes a0_2))]], Tryz.f63.ntmps⟩ ?_ ?_
            · refine VO_case 57 (fun c72 => ?_) (fun c72 => ?_)
              · replace hb71 := cnd_t c72 hb71
                refine goL ?_
                refine VO_b ?_
                refine VO_r (QR_ixn y67 (gType hx70)) ?_
                refine goL ?_
                refine VO_b ?_
                obtain ⟨x73, hx73, hb71⟩ := bnd_s hb71
                refine VO_r (QR_call (hrec_sForm (TType.mk x70_0 x70_1 x70_2) hx73)) ?_
                refine goL ?_
                cases hb71
                exact ⟨rfl, ⟨⟨rfl, rfl⟩, ⟨rfl, rfl⟩, ⟨rfl, rfl⟩, trivial⟩, ⟨[], rfl⟩, rfl⟩
              · replace hb71 := cnd_f c72 hb71
                refine goL ?_
                cases hb71
                exact ⟨rfl, ⟨⟨rfl, rfl⟩, ⟨rfl, rfl⟩, ⟨rfl, rfl⟩, trivial⟩, ⟨[], rfl⟩, rfl⟩
            refine goL ?_
            refine VO_r (QR_inc y67 (by omega)) ?_
            refine goL ?_
            exact ⟨(y67 + 1), b71, h, by omega, ⟨rfl, ⟨⟨rfl, rfl⟩, ⟨rfl, rfl⟩, ⟨rfl, rfl⟩, trivial⟩, ⟨_, rfl⟩, rfl⟩⟩
          · have hky672 := kgeN c69
            rw [drop_end hky672, b_sForm_l6.eq_1] at h
            refine V_exit ?_
            show V _ _ _ _ _
            refine goL ?_
            refine V_ret ?_
            replace h := Option.some.inj h
            subst h
            exact R_rP
        · replace h := cnd_f c60 h
          refine goL ?_
          refine V_ret ?_
          replace h := Option.some.inj h
          subst h
          exact R_rP
def m_sForm : Nat → TType → Option (Bool)
  | 0, _ => none
  | n + 1, x0 => b_sForm (m_sForm n) x0
theorem s_sForm : ∀ (n : Nat) (x0 : TType) {r : Bool}, m_sForm n x0 = some r → SpecP Tryz.prog 63 [.d (eType x0)] [.b r] := by
  intro n
  induction n with
  | zero => intro x0 r h; cases h
  | succ n ih => intro x0 r h; exact w_sForm ih x0 h
def b_iDepth_l1 (rec_iDepth : TType → Option (Int)) : List TType → Int → Option (Int)
  | [], y1 => (some y1)
  | x5 :: xs, y1 => bnd (rec_iDepth x5) fun x6 =>
b_iDepth_l1 rec_iDepth xs (if y1 < (IntKind.i64.wrap (x6 + 1)) then (IntKind.i64.wrap (x6 + 1)) else y1)
def b_iDepth (rec_iDepth : TType → Option (Int)) (a0 : TType) : Option (Int) :=
b_iDepth_l1 rec_iDepth a0.args 0
set_option maxHeartbeats 4000000 in
theorem w_iDepth {rec_iDepth : TType → Option (Int)} (hrec_iDepth : ∀ (x0 : TType) {r : Int}, rec_iDepth x0 = some r → SpecP Tryz.prog 44 [.d (eType x0)] [.i .i64 r]) (a0 : TType) {r : Int} (h : b_iDepth rec_iDepth a0 = some r) : SpecP Tryz.prog 44 [.d (eType a0)] [.i .i64 r] := by
  obtain ⟨a0_0, a0_1, a0_2⟩ := a0
  unfold b_iDepth at h
  refine SpecP_intro Tryz.func44 rfl (by kernel_rfl) rfl fun A _ => ?_
  refine goL ?_
  refine V_block ?_
  show V _ _ _ _ _
  refine V_bd 7 (fun z3 => ?_)
  refine V_loop2 (fun (y2 : Nat) (y1 : Int) => ⟨[(3, .d (.i .i64 y1)), (7, .d (.sl 3 (eTypes a0_2))), (8, .d (.i .i64 (a0_2.length : Int))), (9, .d (.i .i64 (y2 : Int)))], [.box [.d (.i .i64 a0_0), .d (.s a0_1), .d (.sl 3 (eTypes a0_2))]], Tryz.f44.ntmps⟩) (fun y2 y1 => b_iDepth_l1 rec_iDepth (a0_2.drop y2) y1 = some r) (fun y2 y1 => a0_2.length - y2) 0 0 ⟨rfl, ⟨⟨rfl, rfl⟩, ⟨rfl, rfl⟩, ⟨rfl, rfl⟩, ⟨rfl, rfl⟩, trivial⟩, ⟨[], rfl⟩, rfl⟩ h ?_
  rintro y2 y1 h
  refine goL ?_
  refine V_seq (V_cb (fun c4 => ?_) (fun c4 => ?_))
  · have hky22 := kltN c4
    obtain ⟨x5, hx5, hdx5⟩ := drop_at hky22
    rw [hdx5, b_iDepth_l1.eq_2] at h
    obtain ⟨x5_0, x5_1, x5_2⟩ := x5
    refine V_skip ?_
    show V _ _ _ _ _
    refine V_seq (V_block ?_)
    refine goL ?_
    refine VO_r (QR_ixn y2 (gType hx5)) ?_
    refine goL ?_
    obtain ⟨x6, hx6, h⟩ := bnd_s h
    refine VO_r (QR_call (hrec_iDepth (TType.mk x5_0 x5_1 x5_2) hx6)) ?_
    refine VO_r (QR_ar) ?_
    refine VO_r (QR_max) ?_
    refine goL ?_
    refine VO_r (QR_inc y2 (by omega)) ?_
    refine goL ?_
    exact ⟨(y2 + 1), (if y1 < (IntKind.i64.wrap (x6 + 1)) then (IntKind.i64.wrap (x6 + 1)) else y1), h, by omega, ⟨rfl, ⟨⟨rfl, rfl⟩, ⟨rfl, rfl⟩, ⟨rfl, rfl⟩, ⟨rfl, rfl⟩, trivial⟩, ⟨_, rfl⟩, rfl⟩⟩
  · have hky22 := kgeN c4
    rw [drop_end hky22, b_iDepth_l1.eq_1] at h
    refine V_exit ?_
    show V _ _ _ _ _
    refine goL ?_
    refine V_ret ?_
    replace h := Option.some.inj h
    subst h
    exact R_rP
def m_iDepth : Nat → TType → Option (Int)
  | 0, _ => none
  | n + 1, x0 => b_iDepth (m_iDepth n) x0
theorem s_iDepth : ∀ (n : Nat) (x0 : TType) {r : Int}, m_iDepth n x0 = some r → SpecP Tryz.prog 44 [.d (eType x0)] [.i .i64 r] := by
  intro n
  induction n with
  | zero => intro x0 r h; cases h
  | succ n ih => intro x0 r h; exact w_iDepth ih x0 h
def b_sDepth_l1 (rec_sDepth : TType → Option (Int)) : List TType → Int → Option (Int)
  | [], y1 => (some y1)
  | x5 :: xs, y1 => bnd (rec_sDepth x5) fun x6 =>
b_sDepth_l1 rec_sDepth xs (b_l1Max y1 (IntKind.i64.wrap ((1 : Int) + x6)))
def b_sDepth (rec_sDepth : TType → Option (Int)) (a0 : TType) : Option (Int) :=
b_sDepth_l1 rec_sDepth a0.args 0
set_option maxHeartbeats 4000000 in
theorem w_sDepth {rec_sDepth : TType → Option (Int)} (hrec_sDepth : ∀ (x0 : TType) {r : Int}, rec_sDepth x0 = some r → SpecP Tryz.prog 62 [.d (eType x0)] [.i .i64 r]) (a0 : TType) {r : Int} (h : b_sDepth rec_sDepth a0 = some r) : SpecP Tryz.prog 62 [.d (eType a0)] [.i .i64 r] := by
  obtain ⟨a0_0, a0_1, a0_2⟩ := a0
  unfold b_sDepth at h
  refine SpecP_intro Tryz.func62 rfl (by kernel_rfl) rfl fun A _ => ?_
  refine goL ?_
  refine V_block ?_
  show V _ _ _ _ _
  refine V_bdc 0 2 (fun z3 => ?_)
  refine V_loop2 (fun (y2 : Nat) (y1 : Int) => ⟨[(1, .ptr 0 0), (3, .d (.i .i64 y1)), (4, .d (.i .i64 (y2 : Int)))], [.box [.d (.i .i64 a0_0), .d (.s a0_1), .d (.sl 3 (eTypes a0_2))]], Tryz.f62.ntmps⟩) (fun y2 y1 => b_sDepth_l1 rec_sDepth (a0_2.drop y2) y1 = some r) (fun y2 y1 => a0_2.length - y2) 0 0 ⟨rfl, ⟨⟨rfl, rfl⟩, ⟨rfl, rfl⟩, ⟨rfl, rfl⟩, trivial⟩, ⟨[], rfl⟩, rfl⟩ h ?_
  rintro y2 y1 h
  refine goL ?_
  refine V_cb (fun c4 => ?_) (fun c4 => ?_)
  · have hky22 := kltN c4
    obtain ⟨x5, hx5, hdx5⟩ := drop_at hky22
    rw [hdx5, b_sDepth_l1.eq_2] at h
    obtain ⟨x5_0, x5_1, x5_2⟩ := x5
    refine V_skip ?_
    show V _ _ _ _ _
    refine V_seq (V_block ?_)
    refine goL ?_
    refine VO_r (QR_ixn y2 (gType hx5)) ?_
    refine goL ?_
    obtain ⟨x6, hx6, h⟩ := bnd_s h
    refine VO_r (QR_call (hrec_sDepth (TType.mk x5_0 x5_1 x5_2) hx6)) ?_
    refine VO_r (QR_ar) ?_
    refine VO_r (QR_call (w_l1Max y1 (IntKind.i64.wrap ((1 : Int) + x6)))) ?_
    refine goL ?_
    refine VO_r (QR_inc y2 (by omega)) ?_
    refine goL ?_
    exact ⟨(y2 + 1), (b_l1Max y1 (IntKind.i64.wrap ((1 : Int) + x6))), h, by omega, ⟨rfl, ⟨⟨rfl, rfl⟩, ⟨rfl, rfl⟩, ⟨rfl, rfl⟩, trivial⟩, ⟨_, rfl⟩, rfl⟩⟩
  · have hky22 := kgeN c4
    rw [drop_end hky22, b_sDepth_l1.eq_1] at h
    refine V_exit ?_
    show V _ _ _ _ _
    refine goL ?_
    refine V_ret ?_
    replace h := Option.some.inj h
    subst h
    exact R_rP
def m_sDepth : Nat → TType → Option (Int)
  | 0, _ => none
  | n + 1, x0 => b_sDepth (m_sDepth n) x0
theorem s_sDepth : ∀ (n : Nat) (x0 : TType) {r : Int}, m_sDepth n x0 = some r → SpecP Tryz.prog 62 [.d (eType x0)] [.i .i64 r] := by
  intro n
  induction n with
  | zero => intro x0 r h; cases h
  | succ n ih => intro x0 r h; exact w_sDepth ih x0 h
def b_l4Left_l1 (rec_l4Left : TType → Int → Option (Int)) (a0 : TType) : Nat → Int → Int → Option (Int)
  | 0, y1, y2 => none
  | n3 + 1, y1, y2 => lt_ ((cnd (decide (y2 < (a0.args.length : Int))) ((decide (y1 ≥ 0))) (false))) fun b4 =>
(cnd b4 (
bnd (at? a0.args y2) fun x7 =>
bnd (rec_l4Left x7 y1) fun x8 =>
b_l4Left_l1 rec_l4Left a0 n3 x8 (IntKind.i64.wrap (y2 + 1))) (
(some y1)))
def b_l4Left (rec_l4Left : TType → Int → Option (Int)) (a0 : TType) (a1 : Int) (n0 : Nat) : Option (Int) :=
b_l4Left_l1 rec_l4Left a0 n0 (IntKind.i64.wrap (a1 - 1)) 0
set_option maxHeartbeats 4000000 in
theorem w_l4Left {rec_l4Left : TType → Int → Option (Int)} (hrec_l4Left : ∀ (x0 : TType) (x1 : Int) {r : Int}, rec_l4Left x0 x1 = some r → SpecP Tryz.prog 61 [.d (eType x0), .d (.i .i64 x1)] [.i .i64 r]) (a0 : TType) (a1 : Int) {n0 : Nat} {r : Int} (h : b_l4Left rec_l4Left a0 a1 n0 = some r) : SpecP Tryz.prog 61 [.d (eType a0), .d (.i .i64 a1)] [.i .i64 r] := by
  obtain ⟨a0_0, a0_1, a0_2⟩ := a0
  unfold b_l4Left at h
  refine SpecP_intro Tryz.func61 rfl (by kernel_rfl) rfl fun A _ => ?_
  refine goL ?_
  refine VO_r (QR_ar) ?_
  refine goL ?_
  refine V_block ?_
  show V _ _ _ _ _
  refine V_loop3 (fun (n3 : Nat) (y1 : Int) (y2 : Int) => ⟨[(1, .d (.i .i64 y1)), (2, .ptr 0 0), (5, .d (.i .i64 y2))], [.box [.d (.i .i64 a0_0), .d (.s a0_1), .d (.sl 3 (eTypes a0_2))]], Tryz.f61.ntmps⟩) (fun n3 y1 y2 => b_l4Left_l1 rec_l4Left (TType.mk a0_0 a0_1 a0_2) n3 y1 y2 = some r) (fun n3 y1 y2 => n3) n0 (IntKind.i64.wrap (a1 - 1)) 0 ⟨rfl, ⟨⟨rfl, rfl⟩, ⟨rfl, rfl⟩, ⟨rfl, rfl⟩, trivial⟩, ⟨[], rfl⟩, rfl⟩ h ?_
  rintro n3 y1 y2 h
  rcases n3 with _ | n3
  · cases h
  rw [b_l4Left_l1.eq_2] at h
  refine goL ?_
  obtain ⟨b4, hb4, h⟩ := lt_x h
  refine VO_join ⟨[(1, .d (.i .i64 y1)), (2, .ptr 0 0), (5, .d (.i .i64 y2)), (16, .d (.b b4))], [.box [.d (.i .i64 a0_0), .d (.s a0_1), .d (.sl 3 (eTypes a0_2))]], Tryz.f61.ntmps⟩ ?_ ?_
  · refine VO_case 13 (fun c5 => ?_) (fun c5 => ?_)
    · replace hb4 := cnd_t c5 hb4
      refine goL ?_
      cases hb4
      exact ⟨rfl, ⟨⟨rfl, rfl⟩, ⟨rfl, rfl⟩, ⟨rfl, rfl⟩, ⟨rfl, rfl⟩, trivial⟩, ⟨[], rfl⟩, rfl⟩
    · replace hb4 := cnd_f c5 hb4
      refine goL ?_
      cases hb4
      exact ⟨rfl, ⟨⟨rfl, rfl⟩, ⟨rfl, rfl⟩, ⟨rfl, rfl⟩, ⟨rfl, rfl⟩, trivial⟩, ⟨[], rfl⟩, rfl⟩
  refine goL ?_
  refine V_cb (fun c6 => ?_) (fun c6 => ?_)
  · replace h := cnd_t c6 h
    refine V_skip ?_
    show V _ _ _ _ _
    refine V_seq (V_block ?_)
    refine goL ?_
    obtain ⟨x7, hx7, h⟩ := bnd_s h
    obtain ⟨hx70, hx7⟩ := at_s hx7
    obtain ⟨x7_0, x7_1, x7_2⟩ := x7
    refine VO_r (QR_ixi hx70 (gType hx7)) ?_
    refine goL ?_
    obtain ⟨x8, hx8, h⟩ := bnd_s h
    refine VO_r (QR_call (hrec_l4Left (TType.mk x7_0 x7_1 x7_2) y1 hx8)) ?_
    refine goL ?_
    refine VO_r (QR_ar) ?_
    refine goL ?_
    exact ⟨n3, x8, (IntKind.i64.wrap (y2 + 1)), h, Nat.lt_succ_self _, ⟨rfl, ⟨⟨rfl, rfl⟩, ⟨rfl, rfl⟩, ⟨rfl, rfl⟩, trivial⟩, ⟨_, rfl⟩, rfl⟩⟩
  · replace h := cnd_f c6 h
    refine V_exit ?_
    show V _ _ _ _ _
    refine goL ?_
    refine V_ret ?_
    replace h := Option.some.inj h
    subst h
    exact R_rP
def m_l4Left : Nat → TType → Int → Option (Int)
  | 0, _, _ => none
  | n + 1, x0, x1 => b_l4Left (m_l4Left n) x0 x1 n
theorem s_l4Left : ∀ (n : Nat) (x0 : TType) (x1 : Int) {r : Int}, m_l4Left n x0 x1 = some r → SpecP Tryz.prog 61 [.d (eType x0), .d (.i .i64 x1)] [.i .i64 r] := by
  intro n
  induction n with
  | zero => intro x0 x1 r h; cases h
  | succ n ih => intro x0 x1 r h; exact w_l4Left ih x0 x1 h
/-! ### what a type must look like, by hand -/
theorem IndexS_has (s : List UInt8) : ∀ (l : List (List UInt8)) (k : Nat), 0 ≤ b_IndexS_l1 s l k ↔ b_l1Has_l1 s l = true
  | [], k => by simp [b_IndexS_l1, b_l1Has_l1]
  | x :: l, k => by
    simp only [b_IndexS_l1, b_l1Has_l1]
    have e : (s == x) = (x == s) := Bool.eq_iff_iff.2 (by simp only [beq_iff_eq]; exact eq_comm)
    rw [e]
    cases x == s with
    | true => simp only [cnd_true]; simp
    | false => simp only [cnd_false]; exact IndexS_has s l (k + 1)
theorem ContainsS_has (l : List (List UInt8)) (s : List UInt8) : b_ContainsS l s = b_l1Has l s :=
  Bool.eq_iff_iff.2 (by unfold b_ContainsS b_IndexS b_l1Has; rw [decide_eq_true_iff]; exact IndexS_has s l 0)
theorem reserved_eq (s : List UInt8) : b_sReserved s = b_iReserved s := by
  unfold b_sReserved b_iReserved
  rw [ContainsS_has]
def lok (x : UInt8) (k : Nat) : Bool := b_iLower (x.toNat : Int) || (!((k : Int) == 0)) && b_iDigit (x.toNat : Int)
def okl : List UInt8 → Nat → Bool
  | [], _ => true
  | x :: xs, k => lok x k && okl xs (k + 1)
theorem iValidName_l1_eq (a : List UInt8) : ∀ (xs : List UInt8) (k : Nat), b_iValidName_l1 a xs k = (okl xs k && b_iValidName_l1 a [] 0)
  | [], k => rfl
  | x :: xs, k => by
    have ih := iValidName_l1_eq a xs (k + 1)
    simp only [b_iValidName_l1, okl, lok] at ih ⊢
    rw [ih]
    generalize b_iLower (x.toNat : Int) = p1
    generalize ((k : Int) == 0) = p2
    generalize b_iDigit (x.toNat : Int) = p3
    cases p1 <;> cases p2 <;> cases p3 <;> rfl
theorem sValidName_l1_eq : ∀ (xs : List UInt8) (k : Nat), b_sValidName_l1 xs k = okl xs k
  | [], k => rfl
  | x :: xs, k => by
    have ih := sValidName_l1_eq xs (k + 1)
    simp only [b_sValidName_l1, okl, lok, b_iLower, b_iDigit] at ih ⊢
    rw [ih]
    have e1 : decide ((x.toNat : Int) < 48) = !decide ((x.toNat : Int) ≥ 48) := by
      by_cases h : (x.toNat : Int) < 48
      · rw [decide_eq_true h, decide_eq_false (by omega)]; rfl
      · rw [decide_eq_false h, decide_eq_true (by omega)]; rfl
    have e2 : decide ((x.toNat : Int) > 57) = !decide ((x.toNat : Int) ≤ 57) := by
      by_cases h : (x.toNat : Int) > 57
      · rw [decide_eq_true h, decide_eq_false (by omega)]; rfl
      · rw [decide_eq_false h, decide_eq_true (by omega)]; rfl
    rw [e1, e2]
    generalize decide ((x.toNat : Int) ≥ 97) = p1
    generalize decide ((x.toNat : Int) ≤ 122) = p2
    generalize ((k : Int) == 0) = p3
    generalize decide ((x.toNat : Int) ≥ 48) = p4
    generalize decide ((x.toNat : Int) ≤ 57) = p5
    cases p1 <;> cases p2 <;> cases p3 <;> cases p4 <;> cases p5 <;> rfl
theorem validName_eq (s : List UInt8) : b_sValidName s = b_iValidName s := by
  unfold b_sValidName b_iValidName
  rw [sValidName_l1_eq, iValidName_l1_eq, reserved_eq]
  simp only [b_iValidName_l1, b_l1In]
  generalize decide ((s.length : Int) ≥ 1) = p1
  generalize decide ((s.length : Int) ≤ 8) = p2
  generalize b_iReserved s = p3
  generalize okl s 0 = p4
  cases p1 <;> cases p2 <;> cases p3 <;> cases p4 <;> rfl
theorem l4Base_eq (s : List UInt8) : b_l4Base s = b_iBuiltIn s := rfl
theorem IndexFuncT_l1_eq {p : TType → Option Bool} {q : TType → Bool} : ∀ (xs : List TType) (k : Nat), (∀ x ∈ xs, p x = some (q x)) → ∃ i, b_IndexFuncT_l1 p xs k = some i ∧ decide (i ≥ 0) = xs.any q
  | [], k, _ => ⟨-1, rfl, rfl⟩
  | x :: xs, k, h => by
    simp only [b_IndexFuncT_l1, h x (by simp), bnd]
    cases hq : q x with
    | true => exact ⟨_, rfl, by simp [hq]⟩
    | false =>
      obtain ⟨i, h1, h2⟩ := IndexFuncT_l1_eq xs (k + 1) (fun z hz => h z (by simp [hz]))
      exact ⟨i, h1, by rw [h2]; simp [hq]⟩
theorem ContainsFuncT_eq {p : TType → Option Bool} {q : TType → Bool} (xs : List TType) (h : ∀ x ∈ xs, p x = some (q x)) : b_ContainsFuncT xs p = some (xs.any q) := by
  obtain ⟨i, h1, h2⟩ := IndexFuncT_l1_eq xs 0 h
  unfold b_ContainsFuncT b_IndexFuncT
  rw [h1, ← h2]
  rfl
def hdB (nm bi : Bool) (k len : Int) : Bool := cnd (k == 1) (nm && (len == 0)) (cnd (k == 4) (nm && (len == 0)) (cnd (k == 3) (nm && (len == 1)) (cnd (k == 2) (nm && decide (len ≤ 3) || bi && (len == 0)) false)))
mutual
def frm : TType → Bool
  | ⟨k, n, ts⟩ => hdB (b_iValidName n) (b_iBuiltIn n) k (ts.length : Int) && frms ts
def frms : List TType → Bool
  | [] => true
  | a :: ts => frm a && frms ts
end
theorem frms_any : ∀ (ts : List TType), ts.any (fun x => !frm x) = !frms ts
  | [] => rfl
  | a :: ts => by simp only [List.any_cons, frms, frms_any ts, Bool.not_and]
theorem iFormed_eq : ∀ (n : Nat), (∀ t : TType, 2 * tnd t ≤ n → m_iFormed n t = some (frm t)) ∧ (∀ t : TType, 2 * tnd t + 1 ≤ n → m_iFormed1 n t = some (!frm t))
  | 0 => ⟨fun t h => by have := tnd_pos t; omega, fun t h => by omega⟩
  | n + 1 => by
    obtain ⟨h1, h2⟩ := iFormed_eq n
    refine ⟨fun t hn => ?_, fun t hn => ?_⟩
    · obtain ⟨k, s, ts⟩ := t
      simp only [tnd] at hn
      have hc := ContainsFuncT_eq (p := m_iFormed1 n) (q := fun x => !frm x) ts (fun x hx => h2 x (by have := tnd_mem hx; omega))
      rw [frms_any] at hc
      simp only [m_iFormed, b_iFormed, frm, hdB, hc]
      generalize b_iValidName s = p1
      generalize b_iBuiltIn s = p2
      generalize ((ts.length : Int) == 0) = p3
      generalize ((ts.length : Int) == 1) = p4
      generalize decide ((ts.length : Int) ≤ 3) = p5
      generalize frms ts = p6
      cases k == 1 <;> cases k == 4 <;> cases k == 3 <;> cases k == 2 <;> cases p1 <;> cases p2 <;> cases p3 <;> cases p4 <;> cases p5 <;> cases p6 <;> rfl
    · simp only [m_iFormed1, b_iFormed1, h1 t (by omega), bnd]
theorem sForm_l1_eq {rec : TType → Option Bool} : ∀ (xs : List TType) (y : Bool), (∀ x ∈ xs, rec x = some (frm x)) → b_sForm_l1 rec xs y = some (y && frms xs)
  | [], y, _ => by simp [b_sForm_l1, frms]
  | x :: xs, y, h => by
    simp only [b_sForm_l1, h x (by simp), bnd, frms]
    cases y with
    | false => simp only [cnd_false]; rw [sForm_l1_eq xs _ (fun z hz => h z (by simp [hz]))]; rfl
    | true => simp only [cnd_true]; rw [sForm_l1_eq xs _ (fun z hz => h z (by simp [hz]))]; simp
theorem sForm_l2_eq {rec : TType → Option Bool} : ∀ (xs : List TType) (y : Bool), (∀ x ∈ xs, rec x = some (frm x)) → b_sForm_l2 rec xs y = some (y && frms xs)
  | [], y, _ => by simp [b_sForm_l2, frms]
  | x :: xs, y, h => by
    simp only [b_sForm_l2, h x (by simp), bnd, frms]
    cases y with
    | false => simp only [cnd_false]; rw [sForm_l2_eq xs _ (fun z hz => h z (by simp [hz]))]; rfl
    | true => simp only [cnd_true]; rw [sForm_l2_eq xs _ (fun z hz => h z (by simp [hz]))]; simp
theorem sForm_l3_eq {rec : TType → Option Bool} : ∀ (xs : List TType) (y : Bool), (∀ x ∈ xs, rec x = some (frm x)) → b_sForm_l3 rec xs y = some (y && frms xs)
  | [], y, _ => by simp [b_sForm_l3, frms]
  | x :: xs, y, h => by
    simp only [b_sForm_l3, h x (by simp), bnd, frms]
    cases y with
    | false => simp only [cnd_false]; rw [sForm_l3_eq xs _ (fun z hz => h z (by simp [hz]))]; rfl
    | true => simp only [cnd_true]; rw [sForm_l3_eq xs _ (fun z hz => h z (by simp [hz]))]; simp
theorem sForm_l4_eq {rec : TType → Option Bool} : ∀ (xs : List TType) (y : Bool), (∀ x ∈ xs, rec x = some (frm x)) → b_sForm_l4 rec xs y = some (y && frms xs)
  | [], y, _ => by simp [b_sForm_l4, frms]
  | x :: xs, y, h => by
    simp only [b_sForm_l4, h x (by simp), bnd, frms]
    cases y with
    | false => simp only [cnd_false]; rw [sForm_l4_eq xs _ (fun z hz => h z (by simp [hz]))]; rfl
    | true => simp only [cnd_true]; rw [sForm_l4_eq xs _ (fun z hz => h z (by simp [hz]))]; simp
theorem sForm_l5_eq {rec : TType → Option Bool} : ∀ (xs : List TType) (y : Bool), (∀ x ∈ xs, rec x = some (frm x)) → b_sForm_l5 rec xs y = some (y && frms xs)
  | [], y, _ => by simp [b_sForm_l5, frms]
  | x :: xs, y, h => by
    simp only [b_sForm_l5, h x (by simp), bnd, frms]
    cases y with
    | false => simp only [cnd_false]; rw [sForm_l5_eq xs _ (fun z hz => h z (by simp [hz]))]; rfl
    | true => simp only [cnd_true]; rw [sForm_l5_eq xs _ (fun z hz => h z (by simp [hz]))]; simp
theorem sForm_l6_eq {rec : TType → Option Bool} : ∀ (xs : List TType) (y : Bool), (∀ x ∈ xs, rec x = some (frm x)) → b_sForm_l6 rec xs y = some (y && frms xs)
  | [], y, _ => by simp [b_sForm_l6, frms]
  | x :: xs, y, h => by
    simp only [b_sForm_l6, h x (by simp), bnd, frms]
    cases y with
    | false => simp only [cnd_false]; rw [sForm_l6_eq xs _ (fun z hz => h z (by simp [hz]))]; rfl
    | true => simp only [cnd_true]; rw [sForm_l6_eq xs _ (fun z hz => h z (by simp [hz]))]; simp
theorem sForm_eq : ∀ (n : Nat) (t : TType), tnd t ≤ n → m_sForm n t = some (frm t)
  | 0, t, h => by have := tnd_pos t; omega
  | n + 1, ⟨k, s, ts⟩, h => by
    simp only [tnd] at h
    have hr : ∀ x ∈ ts, m_sForm n x = some (frm x) := fun x hx => sForm_eq n x (by have := tnd_mem hx; omega)
    simp only [m_sForm, b_sForm, frm, hdB, sForm_l1_eq ts _ hr, sForm_l2_eq ts _ hr, sForm_l3_eq ts _ hr, sForm_l4_eq ts _ hr, sForm_l5_eq ts _ hr, sForm_l6_eq ts _ hr, validName_eq, l4Base_eq]
    generalize b_iValidName s = p1
    generalize b_iBuiltIn s = p2
    generalize ((ts.length : Int) == 0) = p3
    generalize ((ts.length : Int) == 1) = p4
    generalize decide ((ts.length : Int) ≤ 3) = p5
    generalize frms ts = p6
    cases k == 1 <;> cases k == 4 <;> cases k == 3 <;> cases k == 2 <;> cases p1 <;> cases p2 <;> cases p3 <;> cases p4 <;> cases p5 <;> cases p6 <;> rfl
/-! depth -/
mutual
def tdp : TType → Int
  | ⟨_, _, ts⟩ => tdps ts 0
def tdps : List TType → Int → Int
  | [], y => y
  | a :: ts, y => tdps ts (if y < IntKind.i64.wrap (tdp a + 1) then IntKind.i64.wrap (tdp a + 1) else y)
end
theorem iDepth_l1_eq {rec : TType → Option Int} : ∀ (xs : List TType) (y : Int), (∀ x ∈ xs, rec x = some (tdp x)) → b_iDepth_l1 rec xs y = some (tdps xs y)
  | [], y, _ => rfl
  | x :: xs, y, h => by
    simp only [b_iDepth_l1, h x (by simp), bnd, tdps]
    exact iDepth_l1_eq xs _ (fun z hz => h z (by simp [hz]))
theorem iDepth_eq : ∀ (n : Nat) (t : TType), tnd t ≤ n → m_iDepth n t = some (tdp t)
  | 0, t, h => by have := tnd_pos t; omega
  | n + 1, ⟨k, s, ts⟩, h => by
    simp only [tnd] at h
    simp only [m_iDepth, b_iDepth, tdp]
    exact iDepth_l1_eq ts 0 (fun x hx => iDepth_eq n x (by have := tnd_mem hx; omega))
theorem l1Max_eq (y w : Int) : b_l1Max y w = if y < w then w else y := by
  unfold b_l1Max
  by_cases h : y > w
  · rw [decide_eq_true h, if_neg (by omega)]; rfl
  · rw [decide_eq_false h, cnd_false]
    by_cases h2 : y < w
    · rw [if_pos h2]
    · rw [if_neg h2]; omega
theorem sDepth_l1_eq {rec : TType → Option Int} : ∀ (xs : List TType) (y : Int), (∀ x ∈ xs, rec x = some (tdp x)) → b_sDepth_l1 rec xs y = some (tdps xs y)
  | [], y, _ => rfl
  | x :: xs, y, h => by
    simp only [b_sDepth_l1, h x (by simp), bnd, tdps]
    rw [l1Max_eq, Int.add_comm 1 (tdp x)]
    exact sDepth_l1_eq xs _ (fun z hz => h z (by simp [hz]))
theorem sDepth_eq : ∀ (n : Nat) (t : TType), tnd t ≤ n → m_sDepth n t = some (tdp t)
  | 0, t, h => by have := tnd_pos t; omega
  | n + 1, ⟨k, s, ts⟩, h => by
    simp only [tnd] at h
    simp only [m_sDepth, b_sDepth, tdp]
    exact sDepth_l1_eq ts 0 (fun x hx => sDepth_eq n x (by have := tnd_mem hx; omega))
/-! what is left of a size -/
theorem wrap_small {m : Int} (h1 : -4611686018427387904 ≤ m) (h2 : m ≤ 4611686018427387904) : IntKind.i64.wrap m = m := by
  exact wrap_in m (by omega) (by omega)
def lfts (y : Int) (m : Nat) : Int := if 0 ≤ y then max (y - m) (-1) else y
theorem lfts_add (y : Int) (a b : Nat) : lfts (lfts y a) b = lfts y (a + b) := by
  by_cases h : 0 ≤ y
  · have e1 : lfts y a = max (y - a) (-1) := if_pos h
    have e2 : lfts y (a + b) = max (y - (a + b : Nat)) (-1) := if_pos h
    rw [e1, e2]
    by_cases h2 : 0 ≤ max (y - (a : Int)) (-1)
    · have e3 : lfts (max (y - (a : Int)) (-1)) b = max (max (y - (a : Int)) (-1) - b) (-1) := if_pos h2
      rw [e3]
      omega
    · have e3 : lfts (max (y - (a : Int)) (-1)) b = max (y - (a : Int)) (-1) := if_neg h2
      rw [e3]
      omega
  · have e1 : lfts y a = y := if_neg h
    have e2 : lfts y (a + b) = y := if_neg h
    rw [e1, e2]
    exact if_neg h
theorem l4Left_l1_eq {rec : TType → Int → Option Int} (t : TType) (ht : t.args.length ≤ 4294967296) : ∀ (f k : Nat) (y : Int), -1 ≤ y → y ≤ 4294967296 → (∀ x ∈ t.args.drop k, ∀ y : Int, 0 ≤ y → y ≤ 4294967296 → rec x y = some (lfts y (tnd x))) → t.args.length < k + f → k ≤ t.args.length →
    b_l4Left_l1 rec t f y (k : Int) = some (lfts y (tnds (t.args.drop k)))
  | 0, k, y, _, _, _, h1, h2 => by omega
  | f + 1, k, y, hy0, hy1, h, h1, h2 => by
    simp only [b_l4Left_l1, lt_]
    by_cases hk : k < t.args.length
    · have e1 : decide ((k : Int) < (t.args.length : Int)) = true := by simp; exact hk
      rw [e1, cnd_true, at_nat, List.getElem?_eq_getElem hk]
      by_cases hy : 0 ≤ y
      · have e2 : decide (y ≥ 0) = true := by simpa using hy
        have hd := List.drop_eq_getElem_cons hk
        have hm : t.args[k] ∈ t.args.drop k := by rw [hd]; exact List.mem_cons_self
        rw [e2, cnd_true]
        simp only [bnd]
        rw [h _ hm y hy hy1]
        simp only []
        have e3 : IntKind.i64.wrap ((k : Int) + 1) = ((k + 1 : Nat) : Int) := by rw [wrap_small (by omega) (by omega)]; omega
        have hr : -1 ≤ lfts y (tnd t.args[k]) ∧ lfts y (tnd t.args[k]) ≤ y := by
          unfold lfts
          rw [if_pos hy]
          omega
        rw [e3, l4Left_l1_eq t ht f (k + 1) _ hr.1 (by omega) (fun x hx => h x (by rw [hd]; exact List.mem_cons_of_mem _ hx)) (by omega) (by omega), hd]
        simp only [tnds]
        rw [lfts_add]
      · have e2 : decide (y ≥ 0) = false := by simp; omega
        rw [e2, cnd_false]
        simp only [lfts, if_neg hy]
    · have e1 : decide ((k : Int) < (t.args.length : Int)) = false := by simp; omega
      rw [e1, cnd_false, cnd_false, List.drop_eq_nil_of_le (by omega)]
      simp only [tnds, lfts]
      split <;> simp <;> omega
theorem tnds_len : ∀ (ts : List TType), ts.length ≤ tnds ts
  | [] => by simp [tnds]
  | a :: ts => by
    have := tnds_len ts
    have := tnd_pos a
    simp only [List.length_cons, tnds]
    omega
theorem l4Left_eq : ∀ (n : Nat) (t : TType) (y : Int), tnd t + 1 ≤ n → tnd t ≤ 4294967296 → 0 ≤ y → y ≤ 4294967296 → m_l4Left n t y = some (lfts y (tnd t))
  | 0, t, y, h, _, _, _ => by omega
  | n + 1, ⟨k, s, ts⟩, y, h, hb, hy0, hy1 => by
    have hl := tnds_len ts
    simp only [tnd] at h hb
    simp only [m_l4Left, b_l4Left]
    rw [wrap_small (by omega) (by omega)]
    have := l4Left_l1_eq (rec := m_l4Left n) ⟨k, s, ts⟩ (by simp only []; omega) n 0 (y - 1) (by omega) (by omega) (fun x hx y hy hy' => by
      have := tnd_mem (ts := ts) (x := x) (by simpa using hx)
      exact l4Left_eq n x y (by omega) (by omega) hy hy') (by simp only []; omega) (by simp)
    simp only [List.drop_zero, Int.natCast_zero] at this
    rw [this]
    simp only [lfts, tnd]
    rw [if_pos hy0]
    split <;> simp <;> omega
def l4left (t : TType) (y : Int) : Int := lfts y (tnd t)
theorem t_iFormed (x0 : TType) : SpecP Tryz.prog 43 [.d (eType x0)] [.b (frm x0)] := s_iFormed (2 * tnd x0) x0 ((iFormed_eq _).1 _ (Nat.le_refl _))
theorem t_sForm (x0 : TType) : SpecP Tryz.prog 63 [.d (eType x0)] [.b (frm x0)] := s_sForm (tnd x0) x0 (sForm_eq _ _ (Nat.le_refl _))
theorem t_iDepth (x0 : TType) : SpecP Tryz.prog 44 [.d (eType x0)] [.i .i64 (tdp x0)] := s_iDepth (tnd x0) x0 (iDepth_eq _ _ (Nat.le_refl _))
theorem t_sDepth (x0 : TType) : SpecP Tryz.prog 62 [.d (eType x0)] [.i .i64 (tdp x0)] := s_sDepth (tnd x0) x0 (sDepth_eq _ _ (Nat.le_refl _))
theorem t_l4Left (x0 : TType) (x1 : Int) (h : tnd x0 ≤ 4294967296 ∧ 0 ≤ (x1 : Int) ∧ (x1 : Int) ≤ 4294967296) : SpecP Tryz.prog 61 [.d (eType x0), .d (.i .i64 x1)] [.i .i64 (l4left x0 x1)] := s_l4Left (tnd x0 + 1) x0 x1 (l4Left_eq _ _ _ (Nat.le_refl _) h.1 h.2.1 h.2.2)
def b_iValidType (a0 : TType) : Bool :=
lt_ ((cnd (frm a0) ((cnd (decide ((tdp a0) ≤ 6)) ((decide ((tsz a0) ≤ 60))) (false))) (false))) fun b1 =>
b1
set_option maxHeartbeats 4000000 in
theorem w_iValidType (a0 : TType) : SpecP Tryz.prog 19 [.d (eType a0)] [.b (b_iValidType a0)] := by
  obtain ⟨r, h⟩ : ∃ r, b_iValidType a0 = r := ⟨_, rfl⟩
  rw [h]
  obtain ⟨a0_0, a0_1, a0_2⟩ := a0
  unfold b_iValidType at h
  refine SpecP_intro Tryz.func19 rfl (by kernel_rfl) rfl fun A _ => ?_
  refine goL ?_
  refine VO_r (QR_call (t_iFormed (TType.mk a0_0 a0_1 a0_2))) ?_
  refine goL ?_
  obtain ⟨b1, hb1, h⟩ := lt_x h
  refine VO_join ⟨[(2, .d (.b b1))], [.box [.d (.i .i64 a0_0), .d (.s a0_1), .d (.sl 3 (eTypes a0_2))]], Tryz.f19.ntmps⟩ ?_ ?_
  · refine VO_case 5 (fun c2 => ?_) (fun c2 => ?_)
    · replace hb1 := cnd_t c2 hb1
      refine goL ?_
      refine VO_b ?_
      refine VO_r (QR_call (t_iDepth (TType.mk a0_0 a0_1 a0_2))) ?_
      refine goL ?_
      refine VO_case 10 (fun c3 => ?_) (fun c3 => ?_)
      · replace hb1 := cnd_t c3 hb1
        refine goL ?_
        refine VO_b ?_
        refine VO_r (QR_call (t_iTypeSize (TType.mk a0_0 a0_1 a0_2))) ?_
        refine goL ?_
        cases hb1
        exact ⟨rfl, ⟨⟨rfl, rfl⟩, trivial⟩, ⟨[], rfl⟩, rfl⟩
      · replace hb1 := cnd_f c3 hb1
        refine goL ?_
        cases hb1
        exact ⟨rfl, ⟨⟨rfl, rfl⟩, trivial⟩, ⟨[], rfl⟩, rfl⟩
    · replace hb1 := cnd_f c2 hb1
      refine goL ?_
      cases hb1
      exact ⟨rfl, ⟨⟨rfl, rfl⟩, trivial⟩, ⟨[], rfl⟩, rfl⟩
  refine goL ?_
  refine V_ret ?_
  subst h
  exact R_rP
def b_sValidType (a0 : TType) : Option (Bool) :=
gd (tnd a0 ≤ 4294967296 ∧ 0 ≤ (60 : Int) ∧ (60 : Int) ≤ 4294967296) (lt_ ((cnd (decide ((l4left a0 60) ≥ 0)) ((cnd (decide ((tdp a0) ≤ 6)) ((frm a0)) (false))) (false))) fun b2 =>
(some b2))
set_option maxHeartbeats 4000000 in
theorem w_sValidType (a0 : TType) {r : Bool} (h : b_sValidType a0 = some r) : SpecP Tryz.prog 31 [.d (eType a0)] [.b r] := by
  obtain ⟨a0_0, a0_1, a0_2⟩ := a0
  unfold b_sValidType at h
  refine SpecP_intro Tryz.func31 rfl (by kernel_rfl) rfl fun A _ => ?_
  refine goL ?_
  obtain ⟨g1, h⟩ := gd_s h
  refine VO_r (QR_call (t_l4Left (TType.mk a0_0 a0_1 a0_2) 60 g1)) ?_
  refine goL ?_
  obtain ⟨b2, hb2, h⟩ := lt_x h
  refine VO_join ⟨[(2, .d (.b b2))], [.box [.d (.i .i64 a0_0), .d (.s a0_1), .d (.sl 3 (eTypes a0_2))]], Tryz.f31.ntmps⟩ ?_ ?_
  · refine VO_case 6 (fun c3 => ?_) (fun c3 => ?_)
    · replace hb2 := cnd_t c3 hb2
      refine goL ?_
      refine VO_b ?_
      refine VO_r (QR_call (t_sDepth (TType.mk a0_0 a0_1 a0_2))) ?_
      refine goL ?_
      refine VO_case 11 (fun c4 => ?_) (fun c4 => ?_)
      · replace hb2 := cnd_t c4 hb2
        refine goL ?_
        refine VO_b ?_
        refine VO_r (QR_call (t_sForm (TType.mk a0_0 a0_1 a0_2))) ?_
        refine goL ?_
        cases hb2
        exact ⟨rfl, ⟨⟨rfl, rfl⟩, trivial⟩, ⟨[], rfl⟩, rfl⟩
      · replace hb2 := cnd_f c4 hb2
        refine goL ?_
        cases hb2
        exact ⟨rfl, ⟨⟨rfl, rfl⟩, trivial⟩, ⟨[], rfl⟩, rfl⟩
    · replace hb2 := cnd_f c3 hb2
      refine goL ?_
      cases hb2
      exact ⟨rfl, ⟨⟨rfl, rfl⟩, trivial⟩, ⟨[], rfl⟩, rfl⟩
  refine goL ?_
  refine V_ret ?_
  replace h := Option.some.inj h
  subst h
  exact R_rP
end Go.Proofs.YtgmlpaaklnkghaaGreat
