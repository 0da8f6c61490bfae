/- Pr3. Written by a program of mine (aw.py). -/
import Derived.Test.YthojhakapbfbiaaDoorFacts
import Derived.Test.YthojhakapbfbiaaDoorCur
import Derived.Test.YthojhakapbfbiaaDoorDict
import Derived.Test.YthojhakapbfbiaaDoorFv1
set_option linter.unusedVariables false
set_option linter.unusedSimpArgs false
set_option linter.unusedSectionVars false
namespace Go.Proofs.YthojhakapbfbiaaDoor
open Go Go.Eng
attribute [local irreducible] V VO VQ VY Quiet QR SpecP SpecO MSpec Rng PostP PostO PostG
noncomputable section
attribute [local instance] Classical.propDecidable
abbrev vwt (v : TValue) : Prop := wt (.st 27) (eValue v)
def veq (a b : TValue) : Bool := deq (eValue a) (eValue b)
theorem t_sEqV (a b : TValue) (h : vwt a ∧ vwt b) : SpecP Tryd.prog 25 [.d (eValue a), .d (eValue b)] [.b (veq a b)] := specEqualValue _ h.1 _ h.2
theorem t_iEqV (a b : TValue) (h : vwt a ∧ vwt b) : SpecP Tryd.prog 26 [.d (eValue a), .d (eValue b)] [.b (veq a b)] := implEqualValue _ h.1 _ h.2
abbrev vfo (v : TValue) : Prop := vok v ∧ (fvT v).length ≤ 4000000000
theorem t_sFV (v : TValue) (h : vfo v) : SpecP Tryd.prog 17 [.d (eValue v)] [.s (fvT v)] := s_sFV _ v (sFV_eq _ v h.1 h.2 (Nat.le_refl _))
theorem t_iFV (v : TValue) (h : vfo v) : SpecP Tryd.prog 19 [.d (eValue v)] [.s (fvT v)] := s_iFV _ v (iFV_eq _ v h.1 h.2 (Nat.le_refl _))

def b_drawEP (a0 : List UInt8) : Option (List UInt8 × TValue × TValue) :=
lt_ (l1NewT a0) fun x1 =>
bnd (b_l1Pick x1 [[43], [45], [42], [60], [61], [47], []]) fun x2 =>
bnd (m_l37Draw 1 x2.2 0) fun x3 =>
bnd (m_l37Draw 1 x3.2 0) fun x4 =>
(some (x2.1, x3.1, x4.1))
set_option maxHeartbeats 4000000 in
theorem w_drawEP (a0 : List UInt8) {r : List UInt8 × TValue × TValue} (h : b_drawEP a0 = some r) : SpecP Tryd.prog 22 [.d (.sl 1 (eBytes a0))] [.s r.1, eValue r.2.1, eValue r.2.2] := by
  unfold b_drawEP at h
  refine SpecP_intro Tryd.func22 rfl (by kernel_rfl) rfl fun A _ => ?_
  refine goL ?_
  obtain ⟨x1, hx1, h⟩ := lt_x h
  obtain ⟨x1_0, x1_1, x1_2⟩ := x1
  have sx1 := t_l1New a0
  rw [hx1] at sx1
  refine VO_cG [] (sx1) ?_
  rintro _ _ ⟨rfl, rfl⟩
  show VO _ _ _ _ ⟨(_, .ptr 2 0) :: _, [.box [.d (.i .i64 0), .d (.i .i64 0), .d (.s []), .d (.i .i64 0), .d (.i .i64 0), .d (.i .i64 0), .nilsl, .nilsl, .nilsl], .box [.d (.i .i64 0), .d (.i .i64 0), .d (.s []), .d (.i .i64 0), .d (.i .i64 0), .d (.i .i64 0), .nilsl, .nilsl, .nilsl], .box [.d (.sl 1 (eBytes x1_0)), .d (.i .i64 x1_1), .d (.i .i64 x1_2)]], _⟩ _
  refine goL ?_
  refine VO_lb (us := eStrs [[43], [45], [42], [60], [61], [47], []]) ?_
  refine VO_freeze 3 rfl rfl ?_
  obtain ⟨x2, hx2, h⟩ := bnd_s h
  obtain ⟨x2_0, ⟨x2_1_0, x2_1_1, x2_1_2⟩⟩ := x2
  refine VO_cG [2] (w_l1Pick (Tl1Cur.mk x1_0 x1_1 x1_2) [[43], [45], [42], [60], [61], [47], []] hx2) ?_
  rintro _ _ ⟨rfl, rfl⟩
  show VO _ _ _ _ ⟨(_, .d (.s x2_0)) :: _, [.box [.d (.i .i64 0), .d (.i .i64 0), .d (.s []), .d (.i .i64 0), .d (.i .i64 0), .d (.i .i64 0), .nilsl, .nilsl, .nilsl], .box [.d (.i .i64 0), .d (.i .i64 0), .d (.s []), .d (.i .i64 0), .d (.i .i64 0), .d (.i .i64 0), .nilsl, .nilsl, .nilsl], .box [.d (.sl 1 (eBytes x2_1_0)), .d (.i .i64 x2_1_1), .d (.i .i64 x2_1_2)], .frz 9 1 0 (eStrs [[43], [45], [42], [60], [61], [47], []])], _⟩ _
  refine goL ?_
  obtain ⟨x3, hx3, h⟩ := bnd_s h
  obtain ⟨⟨x3_0_0, x3_0_1, x3_0_2, ⟨x3_0_3_0, ⟨x3_0_3_1_0, x3_0_3_1_1⟩, x3_0_3_2, x3_0_3_3⟩, x3_0_4⟩, ⟨x3_1_0, x3_1_1, x3_1_2⟩⟩ := x3
  refine VO_cG [2] (s_l37Draw 1 (Tl1Cur.mk x2_1_0 x2_1_1 x2_1_2) 0 hx3) ?_
  rintro _ _ ⟨rfl, rfl⟩
  show VO _ _ _ _ ⟨(_, .d (.st [.i .i64 x3_0_0, .i .i64 x3_0_1, .s x3_0_2, .st [.i .i64 x3_0_3_0, .st [.i .i64 x3_0_3_1_0, .i .i64 x3_0_3_1_1], .sl 1 (eInts x3_0_3_2), .sl 5 (eDictionarys x3_0_3_3)], .sl 9 (eValues x3_0_4)])) :: _, [.box [.d (.i .i64 0), .d (.i .i64 0), .d (.s []), .d (.i .i64 0), .d (.i .i64 0), .d (.i .i64 0), .nilsl, .nilsl, .nilsl], .box [.d (.i .i64 0), .d (.i .i64 0), .d (.s []), .d (.i .i64 0), .d (.i .i64 0), .d (.i .i64 0), .nilsl, .nilsl, .nilsl], .box [.d (.sl 1 (eBytes x3_1_0)), .d (.i .i64 x3_1_1), .d (.i .i64 x3_1_2)], .frz 9 1 0 (eStrs [[43], [45], [42], [60], [61], [47], []])], _⟩ _
  refine goL ?_
  obtain ⟨x4, hx4, h⟩ := bnd_s h
  obtain ⟨⟨x4_0_0, x4_0_1, x4_0_2, ⟨x4_0_3_0, ⟨x4_0_3_1_0, x4_0_3_1_1⟩, x4_0_3_2, x4_0_3_3⟩, x4_0_4⟩, ⟨x4_1_0, x4_1_1, x4_1_2⟩⟩ := x4
  refine VO_cG [2] (s_l37Draw 1 (Tl1Cur.mk x3_1_0 x3_1_1 x3_1_2) 0 hx4) ?_
  rintro _ _ ⟨rfl, rfl⟩
  show VO _ _ _ _ ⟨(_, .d (.st [.i .i64 x4_0_0, .i .i64 x4_0_1, .s x4_0_2, .st [.i .i64 x4_0_3_0, .st [.i .i64 x4_0_3_1_0, .i .i64 x4_0_3_1_1], .sl 1 (eInts x4_0_3_2), .sl 5 (eDictionarys x4_0_3_3)], .sl 9 (eValues x4_0_4)])) :: _, [.box [.d (.i .i64 0), .d (.i .i64 0), .d (.s []), .d (.i .i64 0), .d (.i .i64 0), .d (.i .i64 0), .nilsl, .nilsl, .nilsl], .box [.d (.i .i64 0), .d (.i .i64 0), .d (.s []), .d (.i .i64 0), .d (.i .i64 0), .d (.i .i64 0), .nilsl, .nilsl, .nilsl], .box [.d (.sl 1 (eBytes x4_1_0)), .d (.i .i64 x4_1_1), .d (.i .i64 x4_1_2)], .frz 9 1 0 (eStrs [[43], [45], [42], [60], [61], [47], []])], _⟩ _
  refine goL ?_
  refine V_ret ?_
  replace h := Option.some.inj h
  subst h
  exact R_rP
def b_FnPrim (a0 : List UInt8) : Option (Bool) :=
(cnd (b_big a0) (
(some true)) (
bnd (b_drawEP a0) fun x2 =>
lt_ (b_iEvalPrim x2.1 x2.2.1 x2.2.2) fun x3 =>
lt_ (b_sEvalPrim x2.1 x2.2.1 x2.2.2) fun x4 =>
bnd ((cnd (!(x3.2 == x4.2)) ((some true)) (gd (vwt x3.1 ∧ vwt x4.1) ((cnd (!(veq x3.1 x4.1)) ((some true)) (gd (vfo x3.1) (gd (vfo x3.1) ((some (!((fvT x3.1) == (fvT x3.1)))))))))))) fun b5 =>
(cnd b5 (
(some false)) (
lt_ (b_iEvalPrim x2.1 x2.2.2 x2.2.1) fun x12 =>
lt_ ((cnd (x2.1 == [43]) (true) ((cnd (x2.1 == [42]) (true) ((x2.1 == [61])))))) fun b13 =>
(cnd b13 (
bnd ((cnd (!x3.2) ((some true)) (gd (vwt x12.1 ∧ vwt x3.1) ((some (veq x12.1 x3.1)))))) fun b17 =>
(some b17)) (
lt_ ((cnd (!(x2.1 == [60])) (true) ((cnd (!x3.2) (true) ((cnd (x3.1.n == 0) (true) ((x12.1.n == 0)))))))) fun b20 =>
(some b20)))))))
set_option maxHeartbeats 4000000 in
theorem w_FnPrim (a0 : List UInt8) {r : Bool} (h : b_FnPrim a0 = some r) : SpecP Tryd.prog 5 [.d (.sl 1 (eBytes a0))] [.b r] := by
  unfold b_FnPrim at h
  refine SpecP_intro Tryd.func5 rfl (by kernel_rfl) rfl fun A _ => ?_
  refine goL ?_
  refine VO_r (QR_call (w_big a0)) ?_
  refine goL ?_
  refine V_cb (fun c1 => ?_) (fun c1 => ?_)
  · replace h := cnd_t c1 h
    refine goL ?_
    refine V_ret ?_
    replace h := Option.some.inj h
    subst h
    exact R_rP
  · replace h := cnd_f c1 h
    refine V_skip ?_
    show V _ _ _ _ _
    refine goL ?_
    obtain ⟨x2, hx2, h⟩ := bnd_s h
    obtain ⟨x2_0, ⟨x2_1_0, x2_1_1, x2_1_2, ⟨x2_1_3_0, ⟨x2_1_3_1_0, x2_1_3_1_1⟩, x2_1_3_2, x2_1_3_3⟩, x2_1_4⟩, ⟨x2_2_0, x2_2_1, x2_2_2, ⟨x2_2_3_0, ⟨x2_2_3_1_0, x2_2_3_1_1⟩, x2_2_3_2, x2_2_3_3⟩, x2_2_4⟩⟩ := x2
    refine VO_r (QR_call (w_drawEP a0 hx2)) ?_
    refine goL ?_
    obtain ⟨x3, hx3, h⟩ := lt_x h
    obtain ⟨⟨x3_0_0, x3_0_1, x3_0_2, ⟨x3_0_3_0, ⟨x3_0_3_1_0, x3_0_3_1_1⟩, x3_0_3_2, x3_0_3_3⟩, x3_0_4⟩, x3_1⟩ := x3
    have sx3 := w_iEvalPrim x2_0 (TValue.mk x2_1_0 x2_1_1 x2_1_2 (TDictionary.mk x2_1_3_0 (TInstanceRef.mk x2_1_3_1_0 x2_1_3_1_1) x2_1_3_2 x2_1_3_3) x2_1_4) (TValue.mk x2_2_0 x2_2_1 x2_2_2 (TDictionary.mk x2_2_3_0 (TInstanceRef.mk x2_2_3_1_0 x2_2_3_1_1) x2_2_3_2 x2_2_3_3) x2_2_4)
    rw [hx3] at sx3
    refine VO_r (QR_call (sx3)) ?_
    refine goL ?_
    obtain ⟨x4, hx4, h⟩ := lt_x h
    obtain ⟨⟨x4_0_0, x4_0_1, x4_0_2, ⟨x4_0_3_0, ⟨x4_0_3_1_0, x4_0_3_1_1⟩, x4_0_3_2, x4_0_3_3⟩, x4_0_4⟩, x4_1⟩ := x4
    have sx4 := w_sEvalPrim x2_0 (TValue.mk x2_1_0 x2_1_1 x2_1_2 (TDictionary.mk x2_1_3_0 (TInstanceRef.mk x2_1_3_1_0 x2_1_3_1_1) x2_1_3_2 x2_1_3_3) x2_1_4) (TValue.mk x2_2_0 x2_2_1 x2_2_2 (TDictionary.mk x2_2_3_0 (TInstanceRef.mk x2_2_3_1_0 x2_2_3_1_1) x2_2_3_2 x2_2_3_3) x2_2_4)
    rw [hx4] at sx4
    refine VO_r (QR_call (sx4)) ?_
    refine goNL ?_
    obtain ⟨b5, hb5, h⟩ := bnd_s h
    refine V_seqJ_draw (P := Tryd.prog) Mix.h ⟨[(3, .d (.s x2_0)), (4, .ptr 0 0), (5, .ptr 1 0), (6, .ptr 2 0), (7, .d (.b x3_1)), (49, .d (.b b5))], [.box [.d (.i .i64 x2_1_0), .d (.i .i64 x2_1_1), .d (.s x2_1_2), .d (.i .i64 x2_1_3_0), .d (.i .i64 x2_1_3_1_0), .d (.i .i64 x2_1_3_1_1), .d (.sl 1 (eInts x2_1_3_2)), .d (.sl 5 (eDictionarys x2_1_3_3)), .d (.sl 9 (eValues x2_1_4))], .box [.d (.i .i64 x2_2_0), .d (.i .i64 x2_2_1), .d (.s x2_2_2), .d (.i .i64 x2_2_3_0), .d (.i .i64 x2_2_3_1_0), .d (.i .i64 x2_2_3_1_1), .d (.sl 1 (eInts x2_2_3_2)), .d (.sl 5 (eDictionarys x2_2_3_3)), .d (.sl 9 (eValues x2_2_4))], .box [.d (.i .i64 x3_0_0), .d (.i .i64 x3_0_1), .d (.s x3_0_2), .d (.i .i64 x3_0_3_0), .d (.i .i64 x3_0_3_1_0), .d (.i .i64 x3_0_3_1_1), .d (.sl 1 (eInts x3_0_3_2)), .d (.sl 5 (eDictionarys x3_0_3_3)), .d (.sl 9 (eValues x3_0_4))], .box [.d (.i .i64 x4_0_0), .d (.i .i64 x4_0_1), .d (.s x4_0_2), .d (.i .i64 x4_0_3_0), .d (.i .i64 x4_0_3_1_0), .d (.i .i64 x4_0_3_1_1), .d (.sl 1 (eInts x4_0_3_2)), .d (.sl 5 (eDictionarys x4_0_3_3)), .d (.sl 9 (eValues x4_0_4))]], Tryd.f5.ntmps⟩ (by kernel_rfl) ?_ ?_
    · refine goL ?_
      refine VQ_case 37 (fun c6 => ?_) (fun c6 => ?_)
      · replace hb5 := cnd_t c6 hb5
        refine goL ?_
        cases hb5
        exact ⟨rfl, ⟨⟨rfl, rfl⟩, ⟨rfl, rfl⟩, ⟨rfl, rfl⟩, ⟨rfl, rfl⟩, ⟨rfl, rfl⟩, ⟨rfl, rfl⟩, trivial⟩, ⟨[], rfl⟩, rfl⟩
      · replace hb5 := cnd_f c6 hb5
        refine goL ?_
        obtain ⟨g7, hb5⟩ := gd_s hb5
        refine VQ_rg (QR_call (t_sEqV (TValue.mk x3_0_0 x3_0_1 x3_0_2 (TDictionary.mk x3_0_3_0 (TInstanceRef.mk x3_0_3_1_0 x3_0_3_1_1) x3_0_3_2 x3_0_3_3) x3_0_4) (TValue.mk x4_0_0 x4_0_1 x4_0_2 (TDictionary.mk x4_0_3_0 (TInstanceRef.mk x4_0_3_1_0 x4_0_3_1_1) x4_0_3_2 x4_0_3_3) x4_0_4) g7)) ?_
        refine goL ?_
        refine VQ_case 43 (fun c8 => ?_) (fun c8 => ?_)
        · replace hb5 := cnd_t c8 hb5
          refine goL ?_
          cases hb5
          exact ⟨rfl, ⟨⟨rfl, rfl⟩, ⟨rfl, rfl⟩, ⟨rfl, rfl⟩, ⟨rfl, rfl⟩, ⟨rfl, rfl⟩, ⟨rfl, rfl⟩, trivial⟩, ⟨[], rfl⟩, rfl⟩
        · replace hb5 := cnd_f c8 hb5
          refine goL ?_
          obtain ⟨g9, hb5⟩ := gd_s hb5
          refine VQ_rg (QR_call (t_iFV (TValue.mk x3_0_0 x3_0_1 x3_0_2 (TDictionary.mk x3_0_3_0 (TInstanceRef.mk x3_0_3_1_0 x3_0_3_1_1) x3_0_3_2 x3_0_3_3) x3_0_4) g9)) ?_
          refine goL ?_
          obtain ⟨g10, hb5⟩ := gd_s hb5
          refine VQ_rg (QR_call (t_sFV (TValue.mk x3_0_0 x3_0_1 x3_0_2 (TDictionary.mk x3_0_3_0 (TInstanceRef.mk x3_0_3_1_0 x3_0_3_1_1) x3_0_3_2 x3_0_3_3) x3_0_4) g10)) ?_
          refine goL ?_
          cases hb5
          exact ⟨rfl, ⟨⟨rfl, rfl⟩, ⟨rfl, rfl⟩, ⟨rfl, rfl⟩, ⟨rfl, rfl⟩, ⟨rfl, rfl⟩, ⟨rfl, rfl⟩, trivial⟩, ⟨[], rfl⟩, rfl⟩
    refine goL ?_
    refine V_cb (fun c11 => ?_) (fun c11 => ?_)
    · replace h := cnd_t c11 h
      refine goL ?_
      refine V_ret ?_
      replace h := Option.some.inj h
      subst h
      exact R_rP
    · replace h := cnd_f c11 h
      refine V_skip ?_
      show V _ _ _ _ _
      refine goL ?_
      obtain ⟨x12, hx12, h⟩ := lt_x h
      obtain ⟨⟨x12_0_0, x12_0_1, x12_0_2, ⟨x12_0_3_0, ⟨x12_0_3_1_0, x12_0_3_1_1⟩, x12_0_3_2, x12_0_3_3⟩, x12_0_4⟩, x12_1⟩ := x12
      have sx12 := w_iEvalPrim x2_0 (TValue.mk x2_2_0 x2_2_1 x2_2_2 (TDictionary.mk x2_2_3_0 (TInstanceRef.mk x2_2_3_1_0 x2_2_3_1_1) x2_2_3_2 x2_2_3_3) x2_2_4) (TValue.mk x2_1_0 x2_1_1 x2_1_2 (TDictionary.mk x2_1_3_0 (TInstanceRef.mk x2_1_3_1_0 x2_1_3_1_1) x2_1_3_2 x2_1_3_3) x2_1_4)
      rw [hx12] at sx12
      refine VO_r (QR_call (sx12)) ?_
      refine goL ?_
      obtain ⟨b13, hb13, h⟩ := lt_x h
      refine VO_join ⟨[(3, .d (.s x2_0)), (6, .ptr 2 0), (7, .d (.b x3_1)), (10, .ptr 4 0), (66, .d (.b b13))], [.box [.d (.i .i64 x2_1_0), .d (.i .i64 x2_1_1), .d (.s x2_1_2), .d (.i .i64 x2_1_3_0), .d (.i .i64 x2_1_3_1_0), .d (.i .i64 x2_1_3_1_1), .d (.sl 1 (eInts x2_1_3_2)), .d (.sl 5 (eDictionarys x2_1_3_3)), .d (.sl 9 (eValues x2_1_4))], .box [.d (.i .i64 x2_2_0), .d (.i .i64 x2_2_1), .d (.s x2_2_2), .d (.i .i64 x2_2_3_0), .d (.i .i64 x2_2_3_1_0), .d (.i .i64 x2_2_3_1_1), .d (.sl 1 (eInts x2_2_3_2)), .d (.sl 5 (eDictionarys x2_2_3_3)), .d (.sl 9 (eValues x2_2_4))], .box [.d (.i .i64 x3_0_0), .d (.i .i64 x3_0_1), .d (.s x3_0_2), .d (.i .i64 x3_0_3_0), .d (.i .i64 x3_0_3_1_0), .d (.i .i64 x3_0_3_1_1), .d (.sl 1 (eInts x3_0_3_2)), .d (.sl 5 (eDictionarys x3_0_3_3)), .d (.sl 9 (eValues x3_0_4))], .box [.d (.i .i64 x4_0_0), .d (.i .i64 x4_0_1), .d (.s x4_0_2), .d (.i .i64 x4_0_3_0), .d (.i .i64 x4_0_3_1_0), .d (.i .i64 x4_0_3_1_1), .d (.sl 1 (eInts x4_0_3_2)), .d (.sl 5 (eDictionarys x4_0_3_3)), .d (.sl 9 (eValues x4_0_4))], .box [.d (.i .i64 x12_0_0), .d (.i .i64 x12_0_1), .d (.s x12_0_2), .d (.i .i64 x12_0_3_0), .d (.i .i64 x12_0_3_1_0), .d (.i .i64 x12_0_3_1_1), .d (.sl 1 (eInts x12_0_3_2)), .d (.sl 5 (eDictionarys x12_0_3_3)), .d (.sl 9 (eValues x12_0_4))]], Tryd.f5.ntmps⟩ ?_ ?_
      · refine VO_case 59 (fun c14 => ?_) (fun c14 => ?_)
        · replace hb13 := cnd_t c14 hb13
          refine goL ?_
          cases hb13
          exact ⟨rfl, ⟨⟨rfl, rfl⟩, ⟨rfl, rfl⟩, ⟨rfl, rfl⟩, ⟨rfl, rfl⟩, ⟨rfl, rfl⟩, trivial⟩, ⟨[], rfl⟩, rfl⟩
        · replace hb13 := cnd_f c14 hb13
          refine goL ?_
          refine VO_case 63 (fun c15 => ?_) (fun c15 => ?_)
          · replace hb13 := cnd_t c15 hb13
            refine goL ?_
            cases hb13
            exact ⟨rfl, ⟨⟨rfl, rfl⟩, ⟨rfl, rfl⟩, ⟨rfl, rfl⟩, ⟨rfl, rfl⟩, ⟨rfl, rfl⟩, trivial⟩, ⟨[], rfl⟩, rfl⟩
          · replace hb13 := cnd_f c15 hb13
            refine goL ?_
            cases hb13
            exact ⟨rfl, ⟨⟨rfl, rfl⟩, ⟨rfl, rfl⟩, ⟨rfl, rfl⟩, ⟨rfl, rfl⟩, ⟨rfl, rfl⟩, trivial⟩, ⟨[], rfl⟩, rfl⟩
      refine goL ?_
      refine V_cb (fun c16 => ?_) (fun c16 => ?_)
      · replace h := cnd_t c16 h
        refine goL ?_
        obtain ⟨b17, hb17, h⟩ := bnd_s h
        refine VO_join ⟨[(2, .d (.b b17))], [.box [.d (.i .i64 x2_1_0), .d (.i .i64 x2_1_1), .d (.s x2_1_2), .d (.i .i64 x2_1_3_0), .d (.i .i64 x2_1_3_1_0), .d (.i .i64 x2_1_3_1_1), .d (.sl 1 (eInts x2_1_3_2)), .d (.sl 5 (eDictionarys x2_1_3_3)), .d (.sl 9 (eValues x2_1_4))], .box [.d (.i .i64 x2_2_0), .d (.i .i64 x2_2_1), .d (.s x2_2_2), .d (.i .i64 x2_2_3_0), .d (.i .i64 x2_2_3_1_0), .d (.i .i64 x2_2_3_1_1), .d (.sl 1 (eInts x2_2_3_2)), .d (.sl 5 (eDictionarys x2_2_3_3)), .d (.sl 9 (eValues x2_2_4))], .box [.d (.i .i64 x3_0_0), .d (.i .i64 x3_0_1), .d (.s x3_0_2), .d (.i .i64 x3_0_3_0), .d (.i .i64 x3_0_3_1_0), .d (.i .i64 x3_0_3_1_1), .d (.sl 1 (eInts x3_0_3_2)), .d (.sl 5 (eDictionarys x3_0_3_3)), .d (.sl 9 (eValues x3_0_4))], .box [.d (.i .i64 x4_0_0), .d (.i .i64 x4_0_1), .d (.s x4_0_2), .d (.i .i64 x4_0_3_0), .d (.i .i64 x4_0_3_1_0), .d (.i .i64 x4_0_3_1_1), .d (.sl 1 (eInts x4_0_3_2)), .d (.sl 5 (eDictionarys x4_0_3_3)), .d (.sl 9 (eValues x4_0_4))], .box [.d (.i .i64 x12_0_0), .d (.i .i64 x12_0_1), .d (.s x12_0_2), .d (.i .i64 x12_0_3_0), .d (.i .i64 x12_0_3_1_0), .d (.i .i64 x12_0_3_1_1), .d (.sl 1 (eInts x12_0_3_2)), .d (.sl 5 (eDictionarys x12_0_3_3)), .d (.sl 9 (eValues x12_0_4))]], Tryd.f5.ntmps⟩ ?_ ?_
        · refine VO_case 69 (fun c18 => ?_) (fun c18 => ?_)
          · replace hb17 := cnd_t c18 hb17
            refine goL ?_
            cases hb17
            exact ⟨rfl, ⟨⟨rfl, rfl⟩, trivial⟩, ⟨[], rfl⟩, rfl⟩
          · replace hb17 := cnd_f c18 hb17
            refine goL ?_
            refine VO_b ?_
            obtain ⟨g19, hb17⟩ := gd_s hb17
            refine VO_r (QR_call (t_iEqV (TValue.mk x12_0_0 x12_0_1 x12_0_2 (TDictionary.mk x12_0_3_0 (TInstanceRef.mk x12_0_3_1_0 x12_0_3_1_1) x12_0_3_2 x12_0_3_3) x12_0_4) (TValue.mk x3_0_0 x3_0_1 x3_0_2 (TDictionary.mk x3_0_3_0 (TInstanceRef.mk x3_0_3_1_0 x3_0_3_1_1) x3_0_3_2 x3_0_3_3) x3_0_4) g19)) ?_
            refine goL ?_
            cases hb17
            exact ⟨rfl, ⟨⟨rfl, rfl⟩, trivial⟩, ⟨[], rfl⟩, rfl⟩
        refine goL ?_
        refine V_ret ?_
        replace h := Option.some.inj h
        subst h
        exact R_rP
      · replace h := cnd_f c16 h
        refine V_skip ?_
        show V _ _ _ _ _
        refine goL ?_
        obtain ⟨b20, hb20, h⟩ := lt_x h
        refine VO_join ⟨[(2, .d (.b b20))], [.box [.d (.i .i64 x2_1_0), .d (.i .i64 x2_1_1), .d (.s x2_1_2), .d (.i .i64 x2_1_3_0), .d (.i .i64 x2_1_3_1_0), .d (.i .i64 x2_1_3_1_1), .d (.sl 1 (eInts x2_1_3_2)), .d (.sl 5 (eDictionarys x2_1_3_3)), .d (.sl 9 (eValues x2_1_4))], .box [.d (.i .i64 x2_2_0), .d (.i .i64 x2_2_1), .d (.s x2_2_2), .d (.i .i64 x2_2_3_0), .d (.i .i64 x2_2_3_1_0), .d (.i .i64 x2_2_3_1_1), .d (.sl 1 (eInts x2_2_3_2)), .d (.sl 5 (eDictionarys x2_2_3_3)), .d (.sl 9 (eValues x2_2_4))], .box [.d (.i .i64 x3_0_0), .d (.i .i64 x3_0_1), .d (.s x3_0_2), .d (.i .i64 x3_0_3_0), .d (.i .i64 x3_0_3_1_0), .d (.i .i64 x3_0_3_1_1), .d (.sl 1 (eInts x3_0_3_2)), .d (.sl 5 (eDictionarys x3_0_3_3)), .d (.sl 9 (eValues x3_0_4))], .box [.d (.i .i64 x4_0_0), .d (.i .i64 x4_0_1), .d (.s x4_0_2), .d (.i .i64 x4_0_3_0), .d (.i .i64 x4_0_3_1_0), .d (.i .i64 x4_0_3_1_1), .d (.sl 1 (eInts x4_0_3_2)), .d (.sl 5 (eDictionarys x4_0_3_3)), .d (.sl 9 (eValues x4_0_4))], .box [.d (.i .i64 x12_0_0), .d (.i .i64 x12_0_1), .d (.s x12_0_2), .d (.i .i64 x12_0_3_0), .d (.i .i64 x12_0_3_1_0), .d (.i .i64 x12_0_3_1_1), .d (.sl 1 (eInts x12_0_3_2)), .d (.sl 5 (eDictionarys x12_0_3_3)), .d (.sl 9 (eValues x12_0_4))]], Tryd.f5.ntmps⟩ ?_ ?_
        · refine VO_case 76 (fun c21 => ?_) (fun c21 => ?_)
          · replace hb20 := cnd_t c21 hb20
            refine goL ?_
            cases hb20
            exact ⟨rfl, ⟨⟨rfl, rfl⟩, trivial⟩, ⟨[], rfl⟩, rfl⟩
          · replace hb20 := cnd_f c21 hb20
            refine goL ?_
            refine VO_case 80 (fun c22 => ?_) (fun c22 => ?_)
            · replace hb20 := cnd_t c22 hb20
              refine goL ?_
              cases hb20
              exact ⟨rfl, ⟨⟨rfl, rfl⟩, trivial⟩, ⟨[], rfl⟩, rfl⟩
            · replace hb20 := cnd_f c22 hb20
              refine goL ?_
              refine VO_case 85 (fun c23 => ?_) (fun c23 => ?_)
              · replace hb20 := cnd_t c23 hb20
                refine goL ?_
                cases hb20
                exact ⟨rfl, ⟨⟨rfl, rfl⟩, trivial⟩, ⟨[], rfl⟩, rfl⟩
              · replace hb20 := cnd_f c23 hb20
                refine goL ?_
                cases hb20
                exact ⟨rfl, ⟨⟨rfl, rfl⟩, trivial⟩, ⟨[], rfl⟩, rfl⟩
        refine goL ?_
        refine V_ret ?_
        replace h := Option.some.inj h
        subst h
        exact R_rP
/-! ### the law, by hand -/
def curok (c : Tl1Cur) : Prop := 0 ≤ c.i ∧ c.b.length ≤ 1048576
theorem byte_ok (c : Tl1Cur) (h : curok c) : ∃ x c', b_l1Byte c = some (x, c') ∧ 0 ≤ x ∧ x ≤ 255 ∧ curok c' := by
  obtain ⟨h1, h2⟩ := h
  unfold b_l1Byte
  cases hc : decide (c.i < (c.b.length : Int)) with
  | true =>
    have h3 := of_decide_eq_true hc
    have hx : at? c.b c.i = some (c.b[c.i.toNat]'(by omega)) := by unfold at?; rw [if_pos h1]; exact List.getElem?_eq_getElem _
    simp only [cnd_true]
    rw [bnd_eq hx]
    refine ⟨_, _, rfl, (andI_255 _).1, (andI_255 _).2, ?_, h2⟩
    simp only
    rw [wrap_in _ (by omega) (by omega)]
    omega
  | false => exact ⟨_, _, rfl, (andI_255 _).1, (andI_255 _).2, h1, h2⟩
theorem below_ok (c : Tl1Cur) (n : Int) (h : curok c) (h0 : 0 < n) (h1 : n ≤ 256) : ∃ x c', b_l1Below c n = some (x, c') ∧ 0 ≤ x ∧ x < n ∧ curok c' := by
  obtain ⟨x, c', e, e1, e2, e3⟩ := byte_ok c h
  unfold b_l1Below
  rw [show decide (n ≤ 0) = false from decide_eq_false (by omega), show decide (n ≤ 256) = true from decide_eq_true h1]
  simp only [cnd_true, cnd_false]
  rw [bnd_eq e, gd_eq (by omega)]
  exact ⟨_, _, rfl, Int.tmod_nonneg _ e1, Int.tmod_lt_of_pos _ h0, e3⟩
theorem pick_ok (c : Tl1Cur) (l : List (List UInt8)) (h : curok c) (h0 : 0 < l.length) (h1 : l.length ≤ 256) : ∃ x c', b_l1Pick c l = some (x, c') ∧ curok c' := by
  obtain ⟨x, c', e, e1, e2, e3⟩ := below_ok c l.length h (by omega) (by omega)
  unfold b_l1Pick
  have hx : at? l x = some (l[x.toNat]'(by omega)) := by unfold at?; rw [if_pos e1]; exact List.getElem?_eq_getElem _
  rw [bnd_eq e, bnd_eq hx]
  exact ⟨_, _, rfl, e3⟩
theorem pickInt_ok (c : Tl1Cur) (l : List Int) (h : curok c) (h0 : 0 < l.length) (h1 : l.length ≤ 256) : ∃ x c', b_l1PickInt c l = some (x, c') ∧ curok c' := by
  obtain ⟨x, c', e, e1, e2, e3⟩ := below_ok c l.length h (by omega) (by omega)
  unfold b_l1PickInt
  have hx : at? l x = some (l[x.toNat]'(by omega)) := by unfold at?; rw [if_pos e1]; exact List.getElem?_eq_getElem _
  rw [bnd_eq e, bnd_eq hx]
  exact ⟨_, _, rfl, e3⟩
theorem draw_ok (c : Tl1Cur) (h : curok c) : ∃ v c', m_l37Draw 1 c 0 = some (v, c') ∧ curok c' := by
  obtain ⟨x, c1, e, _, _, e3⟩ := below_ok c 6 h (by omega) (by omega)
  obtain ⟨y, c2, f, _, _, f3⟩ := below_ok c1 3 e3 (by omega) (by omega)
  obtain ⟨z, c3, g, g3⟩ := pickInt_ok c1 [0, 1, (-5), 7, 9223372036854775807, (-9223372036854775808)] e3 (by simp) (by simp)
  have hd : decide ((0 : Int) > 0) = false := rfl
  simp only [m_l37Draw, b_l37Draw]
  rw [bnd_eq e]
  simp only [hd, cnd_false]
  rw [bnd_eq f, bnd_eq g]
  cases (x == 0) <;> cases (x == 1) <;> cases (x == 2) <;> cases (x == 3) <;> cases (x == 4) <;> simp only [cnd_true, cnd_false] <;> exact ⟨_, _, rfl, by assumption⟩
theorem drawEP_ok (code : List UInt8) (h : curok (l1NewT code)) : ∃ n a b, b_drawEP code = some (n, a, b) := by
  unfold b_drawEP
  obtain ⟨x, c1, e, e1⟩ := pick_ok (l1NewT code) [[43], [45], [42], [60], [61], [47], []] h (by simp) (by simp)
  obtain ⟨a, c2, f, f1⟩ := draw_ok c1 e1
  obtain ⟨b, c3, g, g1⟩ := draw_ok c2 f1
  simp only [lt_]
  rw [bnd_eq e, bnd_eq f, bnd_eq g]
  exact ⟨_, _, _, rfl⟩
theorem prim_eq (n : List UInt8) (a b : TValue) : b_sEvalPrim n a b = b_iEvalPrim n a b := rfl
/-- What EvalPrim gives: a number or a truth, or nothing. -/
def flat (v : TValue) : Prop := ∃ k n, v = ⟨k, n, [], ⟨0, ⟨0, 0⟩, [], []⟩, []⟩ ∧ inRange k ∧ inRange n
theorem flat_vwt {v : TValue} (h : flat v) : vwt v := by
  obtain ⟨k, n, rfl, hk, hn⟩ := h
  have f27 : flds 27 = [.int, .int, .str, .st 26, .sl (.st 27)] := rfl
  have f26 : flds 26 = [.int, .st 16, .sl (.int), .sl (.st 26)] := rfl
  have f25 : flds 16 = [.int, .int] := rfl
  have h0 : inRange 0 := ⟨by omega, by omega⟩
  unfold vwt
  simp only [eValue, eValues, eDictionary, eDictionarys, eInstanceRef, eInts, wt, f27, wts, f26, f25, wta, List.length_nil, true_and, and_true, Nat.zero_le]
  repeat' (first | exact hk | exact hn | exact h0 | rfl | trivial | refine And.intro ?_ ?_)
theorem flat_vfo {v : TValue} (h : flat v) : vfo v := by
  obtain ⟨k, n, rfl, hk, hn⟩ := h
  refine ⟨by simp only [vok, voks]; exact ⟨hn, trivial⟩, ?_⟩
  have := Lib.itoa_length_le n hn.1 hn.2
  simp only [fvT, fvs, fv1]
  cases (k == 1) <;> simp only [cnd_true, cnd_false]
  · cases (k == 2) <;> simp only [cnd_true, cnd_false]
    · cases (k == 3) <;> simp only [cnd_true, cnd_false]
      · cases (k == 4) <;> simp [cnd_true, cnd_false]
      · simp [cnd_true]
    · cases (n == 1) <;> simp [cnd_true, cnd_false]
  · omega
theorem prim_flat (n : List UInt8) (a b : TValue) : flat (b_iEvalPrim n a b).1 := by
  have h0 : inRange 0 := ⟨by omega, by omega⟩
  have h1 : inRange 1 := ⟨by omega, by omega⟩
  have h2 : inRange 2 := ⟨by omega, by omega⟩
  have hw : ∀ m : Int, inRange (IntKind.i64.wrap m) := fun m => by unfold inRange; rw [IntKind.wrap_i64]; constructor <;> omega
  unfold b_iEvalPrim
  simp only [lt_, b_EvalPrim1]
  cases (cnd (a.kind != 1) true (b.kind != 1)) <;> simp only [cnd_true, cnd_false]
  · cases (n == [43]) <;> simp only [cnd_true, cnd_false]
    · cases (n == [45]) <;> simp only [cnd_true, cnd_false]
      · cases (n == [42]) <;> simp only [cnd_true, cnd_false]
        · cases (n == [60]) <;> simp only [cnd_true, cnd_false]
          · cases (n == [61]) <;> simp only [cnd_true, cnd_false]
            · exact ⟨_, _, rfl, h0, h0⟩
            · cases (a.n == b.n) <;> simp only [cnd_true, cnd_false]
              · exact ⟨_, _, rfl, h2, h0⟩
              · exact ⟨_, _, rfl, h2, h1⟩
          · cases decide (a.n < b.n) <;> simp only [cnd_true, cnd_false]
            · exact ⟨_, _, rfl, h2, h0⟩
            · exact ⟨_, _, rfl, h2, h1⟩
        · exact ⟨_, _, rfl, h1, hw _⟩
      · exact ⟨_, _, rfl, h1, hw _⟩
    · exact ⟨_, _, rfl, h1, hw _⟩
  · exact ⟨_, _, rfl, h0, h0⟩
theorem veq_self (v : TValue) : veq v v = true := deq_self _
theorem gd_any {α : Type} {c : Prop} {k : Option α} (inst : Decidable c) (hc : c) : @gd α c inst k = k := gd_eq hc
theorem law_tail (v : TValue) (hv : vwt v ∧ vwt v) (hf : vfo v) (i1 : Decidable (vwt v ∧ vwt v)) (i2 i3 : Decidable (vfo v)) : @gd Bool (vwt v ∧ vwt v) i1 (cnd (!(veq v v)) (some true) (@gd Bool (vfo v) i2 (@gd Bool (vfo v) i3 (some (!(fvT v == fvT v)))))) = some false := by
  refine (gd_any i1 hv).trans ?_
  rw [veq_self]
  refine (gd_any i2 hf).trans ?_
  refine (gd_any i3 hf).trans ?_
  simp
theorem beq_sym (a b : Int) : (a == b) = (b == a) := by
  by_cases hq : a = b
  · rw [hq]
  · rw [beq_false_of_ne hq, beq_false_of_ne (Ne.symm hq)]
theorem prim_comm (n : List UInt8) (a b : TValue) (h : cnd (n == [43]) true (cnd (n == [42]) true (n == [61])) = true) : b_iEvalPrim n b a = b_iEvalPrim n a b := by
  have hg : cnd (b.kind != 1) true (a.kind != 1) = cnd (a.kind != 1) true (b.kind != 1) := by cases (a.kind != 1) <;> cases (b.kind != 1) <;> rfl
  unfold b_iEvalPrim
  simp only [lt_, hg]
  cases h1 : (n == [43]) with
  | true => simp only [cnd_true]; rw [Int.add_comm]
  | false =>
    rw [h1] at h
    simp only [cnd_false] at h ⊢
    cases h2 : (n == [42]) with
    | true =>
      have e : n = [42] := eq_of_beq h2
      subst e
      simp only [show (([42] : List UInt8) == [45]) = false from rfl, cnd_false, cnd_true]
      rw [Int.mul_comm]
    | false =>
      rw [h2] at h
      simp only [cnd_false] at h
      have e : n = [61] := eq_of_beq h
      subst e
      simp only [show (([61] : List UInt8) == [45]) = false from rfl, show (([61] : List UInt8) == [60]) = false from rfl, show (([61] : List UInt8) == [61]) = true from rfl, cnd_false, cnd_true]
      rw [beq_sym b.n a.n]
theorem prim_lt (a b : TValue) (h : (b_iEvalPrim [60] a b).2 = true) : ((b_iEvalPrim [60] a b).1.n == 0) = true ∨ ((b_iEvalPrim [60] b a).1.n == 0) = true := by
  have hg : cnd (b.kind != 1) true (a.kind != 1) = cnd (a.kind != 1) true (b.kind != 1) := by cases (a.kind != 1) <;> cases (b.kind != 1) <;> rfl
  unfold b_iEvalPrim at h ⊢
  simp only [lt_, hg, b_EvalPrim1] at h ⊢
  cases hc : cnd (a.kind != 1) true (b.kind != 1) with
  | true => rw [hc] at h; simp only [cnd_true] at h; cases h
  | false =>
    simp only [cnd_false, cnd_true, show (([60] : List UInt8) == [43]) = false from rfl, show (([60] : List UInt8) == [45]) = false from rfl, show (([60] : List UInt8) == [42]) = false from rfl, show (([60] : List UInt8) == [60]) = true from rfl]
    by_cases hl : a.n < b.n
    · right
      rw [show decide (b.n < a.n) = false from decide_eq_false (by omega)]
      rfl
    · left
      rw [show decide (a.n < b.n) = false from decide_eq_false hl]
      rfl
theorem FnPrim_eq (code : List UInt8) (h : code.length ≤ 1048576 → curok (l1NewT code)) : b_FnPrim code = some true := by
  unfold b_FnPrim
  cases hb : b_big code with
  | true => rfl
  | false =>
    have hl : code.length ≤ 1048576 := by
      unfold b_big at hb
      have := of_decide_eq_false hb
      omega
    obtain ⟨n, a, b, e⟩ := drawEP_ok code (h hl)
    simp only [cnd_false]
    rw [bnd_eq e]
    simp only [lt_, prim_eq]
    have hf := prim_flat n a b
    have hf2 := prim_flat n b a
    rw [show ((b_iEvalPrim n a b).2 == (b_iEvalPrim n a b).2) = true from by simp]
    simp only [Bool.not_true, cnd_false]
    have g1 : vwt (b_iEvalPrim n a b).1 ∧ vwt (b_iEvalPrim n a b).1 := ⟨flat_vwt hf, flat_vwt hf⟩
    have g2 : vwt (b_iEvalPrim n b a).1 ∧ vwt (b_iEvalPrim n a b).1 := ⟨flat_vwt hf2, flat_vwt hf⟩
    have g3 := flat_vfo hf
    refine (bnd_eq (law_tail _ g1 g3 _ _ _)).trans ?_
    simp only [cnd_false]
    cases h13 : cnd (n == [43]) true (cnd (n == [42]) true (n == [61])) with
    | true =>
      simp only [cnd_true]
      cases ho : (b_iEvalPrim n a b).2 with
      | false => rfl
      | true =>
        simp only [Bool.not_true, cnd_false]
        refine (bnd_eq (x := true) ((gd_any _ g2).trans ?_)).trans rfl
        rw [prim_comm n a b h13, veq_self]
    | false =>
      simp only [cnd_false]
      cases h60 : (n == [60]) with
      | false => rfl
      | true =>
        have e : n = [60] := eq_of_beq h60
        subst e
        simp only [Bool.not_true, cnd_false]
        cases ho : (b_iEvalPrim [60] a b).2 with
        | false => rfl
        | true =>
          simp only [Bool.not_true, cnd_false]
          rcases prim_lt a b ho with h1 | h1
          · rw [h1]; rfl
          · rw [h1]; cases ((b_iEvalPrim [60] a b).1.n == 0) <;> rfl

end
end Go.Proofs.YthojhakapbfbiaaDoor
