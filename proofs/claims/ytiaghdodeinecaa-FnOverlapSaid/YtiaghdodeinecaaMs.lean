/- Um2. Written by a program of mine (aw.py). -/
import Derived.Test.YtiaghdodeinecaaEng43
import Derived.Test.YtiaghdodeinecaaUn1
import Derived.Test.YtiaghdodeinecaaMt
set_option linter.unusedVariables false
set_option linter.unusedSimpArgs false
set_option linter.unusedSectionVars false
namespace Go.Proofs.Ytiaghdodeinecaa
open Go Go.Eng
attribute [local irreducible] V VO VQ VY Quiet QR SpecP SpecO Rng PostP PostO PostG
def b_sMatch (rec_sMatch : TType → TType → (List TBinding) → Option (Bool × List TBinding)) (rec_s7All : (List TType) → (List TType) → (List TBinding) → Option (Bool × List TBinding)) (p : TType) (t : TType) (l0 : List TBinding) : Option (Bool × List TBinding) :=
(cnd (p.kind == 1) (
bnd (b_sLookup l0 p.name) fun x2 =>
(cnd x2.2 (
(some ((teq x2.1 t), l0))) (
gd (tok t) (lt_ (idT t) fun x6 =>
gd (l0.length + [(TBinding.mk p.name x6)].length ≤ 4294967296) (
(some (true, (l0 ++ [(TBinding.mk p.name x6)])))))))) (
lt_ ((cnd (p.kind != t.kind) (true) ((cnd (!(p.name == t.name)) (true) (((p.args.length : Int) != (t.args.length : Int))))))) fun b8 =>
(cnd b8 (
(some (false, []))) (
bnd (rec_s7All p.args t.args l0) fun x12 =>
(cnd x12.1 (
(some (true, x12.2))) (
(some (false, []))))))))
set_option maxHeartbeats 4000000 in
theorem w_sMatch {rec_sMatch : TType → TType → (List TBinding) → Option (Bool × List TBinding)} {rec_s7All : (List TType) → (List TType) → (List TBinding) → Option (Bool × List TBinding)} (hrec_sMatch : ∀ (x0 : TType) (x1 : TType) (x2 : List TBinding) (w0 : Nat) {r : Bool × List TBinding}, rec_sMatch x0 x1 x2 = some r → Go.Eng.Spec Try.prog 73 [.d (eType x0), .d (eType x1), .sl 0 w0] [.arr 37 4 w0 (eBindings x2)] (fun sv Lo => ∃ (u'0 v'0 : Nat) (j'0 : List TBinding), (r.1 = true ∧ sv = .tup [.sl 0 v'0, .d (.b true)] ∧ Lo = [.arr 37 4 v'0 (eBindings r.2)]) ∨ (r.1 = false ∧ sv = .tup [.sl 0 u'0, .d (.b false)] ∧ Lo = [.arr 37 4 v'0 (eBindings j'0)]))) (hrec_s7All : ∀ (x0 : List TType) (x1 : List TType) (x2 : List TBinding) (w0 : Nat) {r : Bool × List TBinding}, rec_s7All x0 x1 x2 = some r → Go.Eng.Spec Try.prog 62 [.d (.sl 3 (eTypes x0)), .d (.sl 3 (eTypes x1)), .sl 0 w0] [.arr 37 4 w0 (eBindings x2)] (fun sv Lo => ∃ (u'0 v'0 : Nat) (j'0 : List TBinding), (r.1 = true ∧ sv = .tup [.sl 0 v'0, .d (.b true)] ∧ Lo = [.arr 37 4 v'0 (eBindings r.2)]) ∨ (r.1 = false ∧ sv = .tup [.sl 0 u'0, .d (.b false)] ∧ Lo = [.arr 37 4 v'0 (eBindings j'0)]))) (p : TType) (t : TType) (l0 : List TBinding) (v0 : Nat) {r : Bool × List TBinding} (h : b_sMatch rec_sMatch rec_s7All p t l0 = some r) : Go.Eng.Spec Try.prog 73 [.d (eType p), .d (eType t), .sl 0 v0] [.arr 37 4 v0 (eBindings l0)] (fun sv Lo => ∃ (u'0 v'0 : Nat) (j'0 : List TBinding), (r.1 = true ∧ sv = .tup [.sl 0 v'0, .d (.b true)] ∧ Lo = [.arr 37 4 v'0 (eBindings r.2)]) ∨ (r.1 = false ∧ sv = .tup [.sl 0 u'0, .d (.b false)] ∧ Lo = [.arr 37 4 v'0 (eBindings j'0)])) := by
  obtain ⟨p_0, p_1, p_2⟩ := p
  obtain ⟨t_0, t_1, t_2⟩ := t
  unfold b_sMatch at h
  refine Spec_intro 1 Try.func73 rfl (by kernel_rfl) rfl rfl fun A _ => ?_
  refine goL ?_
  refine V_cb (fun c1 => ?_) (fun c1 => ?_)
  · replace h := cnd_t c1 h
    refine goL ?_
    obtain ⟨x2, hx2, h⟩ := bnd_s h
    obtain ⟨⟨x2_0_0, x2_0_1, x2_0_2⟩, x2_1⟩ := x2
    refine VO_co (w_sLookup l0 p_1 hx2) ?_
    refine goL ?_
    refine V_cb (fun c3 => ?_) (fun c3 => ?_)
    · replace h := cnd_t c3 h
      refine goL ?_
      refine VO_k (Q_cb (t_sEqualType (TType.mk x2_0_0 x2_0_1 x2_0_2) (TType.mk t_0 t_1 t_2))) ?_
      refine goL ?_
      refine V_ret ?_
      replace h := Option.some.inj h
      subst h
      rcases Bool.eq_false_or_eq_true (teq (TType.mk x2_0_0 x2_0_1 x2_0_2) (TType.mk t_0 t_1 t_2)) with q4 | q4
      · exact R_rH [.sl 0 v0, .d (.b (teq (TType.mk x2_0_0 x2_0_1 x2_0_2) (TType.mk t_0 t_1 t_2)))] [.arr 37 4 v0 (eBindings l0)] ⟨v0, v0, [], .inl ⟨q4, congrArg (fun z => SV.tup [.sl 0 v0, .d (.b z)]) q4, rfl⟩⟩
      · exact R_rH [.sl 0 v0, .d (.b (teq (TType.mk x2_0_0 x2_0_1 x2_0_2) (TType.mk t_0 t_1 t_2)))] [.arr 37 4 v0 (eBindings l0)] ⟨v0, v0, l0, .inr ⟨q4, congrArg (fun z => SV.tup [.sl 0 v0, .d (.b z)]) q4, rfl⟩⟩
    · replace h := cnd_f c3 h
      refine V_skip ?_
      show V _ _ _ _ _
      refine V_seq_drawX (P := Try.prog) Mix.h [(0, true), (1, true), (2, true), (3, true), (4, false), (5, true), (6, false), (7, false), (8, true), (9, true)] (by kernel_rfl) ?_
      refine goY ?_
      obtain ⟨g5, h⟩ := gd_s h
      obtain ⟨x6, hx6, h⟩ := lt_x h
      obtain ⟨x6_0, x6_1, x6_2⟩ := x6
      have sx6 := t_sCopyType (TType.mk t_0 t_1 t_2) g5
      rw [hx6] at sx6
      refine VY_co (sx6) ?_
      refine goY ?_
      refine VY_frzO 5 rfl rfl ?_
      refine VY_lb (T := 38) (us := eBindings [(TBinding.mk p_1 (TType.mk x6_0 x6_1 x6_2))]) ?_
      obtain ⟨g7, h⟩ := gd_s h
      refine VY_apa (T := 38) g7 ?_
      refine goY ?_
      refine VY_nil ?_
      refine goL ?_
      refine V_ret ?_
      replace h := Option.some.inj h
      subst h
      exact R_rH [.sl 0 (v0 + 1), .d (.b true)] [.arr 37 4 (v0 + 1) (eBindings (l0 ++ [(TBinding.mk p_1 (TType.mk x6_0 x6_1 x6_2))]))] ⟨(v0 + 1), (v0 + 1), [], .inl ⟨rfl, rfl, rfl⟩⟩
  · replace h := cnd_f c1 h
    refine V_skip ?_
    show V _ _ _ _ _
    refine goL ?_
    obtain ⟨b8, hb8, h⟩ := lt_x h
    refine VO_join ⟨[(2, .sl 0 v0), (3, .ptr 1 0), (4, .ptr 2 0), (53, .d (.b b8))], [.arr 37 4 v0 (eBindings l0), .box [.d (.i .i64 p_0), .d (.s p_1), .d (.sl 3 (eTypes p_2))], .box [.d (.i .i64 t_0), .d (.s t_1), .d (.sl 3 (eTypes t_2))]], Try.f73.ntmps⟩ ?_ ?_
    · refine VO_case 38 (fun c9 => ?_) (fun c9 => ?_) (by first | rfl | (simp only [eTypes_len, eBindings_len]; rfl))
      · replace hb8 := cnd_t c9 hb8
        refine goL ?_
        cases hb8
        exact ⟨rfl, ⟨⟨rfl, rfl⟩, ⟨rfl, rfl⟩, ⟨rfl, rfl⟩, ⟨by first | rfl | (simp only [eTypes_len, eBindings_len]; rfl), rfl⟩, trivial⟩, ⟨[], rfl⟩, rfl⟩
      · replace hb8 := cnd_f c9 hb8
        refine goL ?_
        refine VO_case 45 (fun c10 => ?_) (fun c10 => ?_) (by first | rfl | (simp only [eTypes_len, eBindings_len]; rfl))
        · replace hb8 := cnd_t c10 hb8
          refine goL ?_
          cases hb8
          exact ⟨rfl, ⟨⟨rfl, rfl⟩, ⟨rfl, rfl⟩, ⟨rfl, rfl⟩, ⟨by first | rfl | (simp only [eTypes_len, eBindings_len]; rfl), rfl⟩, trivial⟩, ⟨[], rfl⟩, rfl⟩
        · replace hb8 := cnd_f c10 hb8
          refine goL ?_
          cases hb8
          exact ⟨rfl, ⟨⟨rfl, rfl⟩, ⟨rfl, rfl⟩, ⟨rfl, rfl⟩, ⟨by first | rfl | (simp only [eTypes_len, eBindings_len]; rfl), rfl⟩, trivial⟩, ⟨[], rfl⟩, rfl⟩
    refine goL ?_
    refine V_cb (fun c11 => ?_) (fun c11 => ?_)
    · replace h := cnd_t c11 h
      refine goL ?_
      refine V_ret ?_
      replace h := Option.some.inj h
      subst h
      exact R_rH [.sl 0 v0, .d (.b false)] [.arr 37 4 v0 (eBindings l0)] ⟨v0, v0, l0, .inr ⟨rfl, rfl, rfl⟩⟩
    · replace h := cnd_f c11 h
      refine V_skip ?_
      show V _ _ _ _ _
      refine goL ?_
      obtain ⟨x12, hx12, h⟩ := bnd_s h
      obtain ⟨x12_0, x12_1⟩ := x12
      refine VO_cG [0] (hrec_s7All p_2 t_2 l0 v0 hx12) ?_
      rintro _ _ ⟨u14, v13, j15, ⟨q16, rfl, rfl⟩ | ⟨q16, rfl, rfl⟩⟩
      · replace h := cnd_t q16 h
        show VO _ _ _ _ ⟨(_, .tup [.sl 0 v13, .d (.b true)]) :: _, [.arr 37 4 v13 (eBindings x12_1), .box [.d (.i .i64 p_0), .d (.s p_1), .d (.sl 3 (eTypes p_2))], .box [.d (.i .i64 t_0), .d (.s t_1), .d (.sl 3 (eTypes t_2))]], _⟩ _
        refine goL ?_
        refine V_ret ?_
        replace h := Option.some.inj h
        subst h
        exact R_rH [.sl 0 v13, .d (.b true)] [.arr 37 4 v13 (eBindings x12_1)] ⟨v13, v13, [], .inl ⟨rfl, rfl, rfl⟩⟩
      · replace h := cnd_f q16 h
        show VO _ _ _ _ ⟨(_, .tup [.sl 0 u14, .d (.b false)]) :: _, [.arr 37 4 v13 (eBindings j15), .box [.d (.i .i64 p_0), .d (.s p_1), .d (.sl 3 (eTypes p_2))], .box [.d (.i .i64 t_0), .d (.s t_1), .d (.sl 3 (eTypes t_2))]], _⟩ _
        refine goL ?_
        refine V_ret ?_
        replace h := Option.some.inj h
        subst h
        exact R_rH [.sl 0 u14, .d (.b false)] [.arr 37 4 v13 (eBindings j15)] ⟨u14, v13, j15, .inr ⟨rfl, rfl, rfl⟩⟩
def b_s7All_l1 (rec_sMatch : TType → TType → (List TBinding) → Option (Bool × List TBinding)) (all : List TType) : List TType → Nat → (List TBinding) → Option (Bool × List TBinding)
  | [], y3, y1 => (some (true, y1))
  | x6 :: xs, y3, y1 => bnd (at? all (y3 : Int)) fun x7 =>
bnd (rec_sMatch x6 x7 y1) fun x8 =>
(cnd x8.1 (
b_s7All_l1 rec_sMatch all xs (y3 + 1) x8.2) (
(some (false, []))))
def b_s7All (rec_sMatch : TType → TType → (List TBinding) → Option (Bool × List TBinding)) (rec_s7All : (List TType) → (List TType) → (List TBinding) → Option (Bool × List TBinding)) (p : List TType) (all : List TType) (l0 : List TBinding) : Option (Bool × List TBinding) :=
b_s7All_l1 rec_sMatch all p 0 l0
set_option maxHeartbeats 4000000 in
theorem w_s7All {rec_sMatch : TType → TType → (List TBinding) → Option (Bool × List TBinding)} {rec_s7All : (List TType) → (List TType) → (List TBinding) → Option (Bool × List TBinding)} (hrec_sMatch : ∀ (x0 : TType) (x1 : TType) (x2 : List TBinding) (w0 : Nat) {r : Bool × List TBinding}, rec_sMatch x0 x1 x2 = some r → Go.Eng.Spec Try.prog 73 [.d (eType x0), .d (eType x1), .sl 0 w0] [.arr 37 4 w0 (eBindings x2)] (fun sv Lo => ∃ (u'0 v'0 : Nat) (j'0 : List TBinding), (r.1 = true ∧ sv = .tup [.sl 0 v'0, .d (.b true)] ∧ Lo = [.arr 37 4 v'0 (eBindings r.2)]) ∨ (r.1 = false ∧ sv = .tup [.sl 0 u'0, .d (.b false)] ∧ Lo = [.arr 37 4 v'0 (eBindings j'0)]))) (hrec_s7All : ∀ (x0 : List TType) (x1 : List TType) (x2 : List TBinding) (w0 : Nat) {r : Bool × List TBinding}, rec_s7All x0 x1 x2 = some r → Go.Eng.Spec Try.prog 62 [.d (.sl 3 (eTypes x0)), .d (.sl 3 (eTypes x1)), .sl 0 w0] [.arr 37 4 w0 (eBindings x2)] (fun sv Lo => ∃ (u'0 v'0 : Nat) (j'0 : List TBinding), (r.1 = true ∧ sv = .tup [.sl 0 v'0, .d (.b true)] ∧ Lo = [.arr 37 4 v'0 (eBindings r.2)]) ∨ (r.1 = false ∧ sv = .tup [.sl 0 u'0, .d (.b false)] ∧ Lo = [.arr 37 4 v'0 (eBindings j'0)]))) (p : List TType) (all : List TType) (l0 : List TBinding) (v0 : Nat) {r : Bool × List TBinding} (h : b_s7All rec_sMatch rec_s7All p all l0 = some r) : Go.Eng.Spec Try.prog 62 [.d (.sl 3 (eTypes p)), .d (.sl 3 (eTypes all)), .sl 0 v0] [.arr 37 4 v0 (eBindings l0)] (fun sv Lo => ∃ (u'0 v'0 : Nat) (j'0 : List TBinding), (r.1 = true ∧ sv = .tup [.sl 0 v'0, .d (.b true)] ∧ Lo = [.arr 37 4 v'0 (eBindings r.2)]) ∨ (r.1 = false ∧ sv = .tup [.sl 0 u'0, .d (.b false)] ∧ Lo = [.arr 37 4 v'0 (eBindings j'0)])) := by
  unfold b_s7All at h
  refine Spec_intro 1 Try.func62 rfl (by kernel_rfl) rfl rfl fun A _ => ?_
  refine goL ?_
  refine V_block ?_
  show V _ _ _ _ _
  refine V_bd 0 (fun z4 => ?_)
  refine V_loop3 (fun (y3 : Nat) (y1 : List TBinding) (v2 : Nat) => ⟨[(0, .d (.sl 3 (eTypes p))), (1, .d (.sl 3 (eTypes all))), (2, .sl 0 v2), (8, .d (.i .i64 (y3 : Int)))], [.arr 37 4 v2 (eBindings y1)], Try.f62.ntmps⟩) (fun y3 y1 v2 => b_s7All_l1 rec_sMatch all (p.drop y3) y3 y1 = some r) (fun y3 y1 v2 => p.length - y3) 0 l0 v0 ⟨rfl, ⟨⟨rfl, rfl⟩, ⟨rfl, rfl⟩, ⟨rfl, rfl⟩, ⟨rfl, rfl⟩, trivial⟩, ⟨[], rfl⟩, rfl⟩ h ?_
  rintro y3 y1 v2 h
  refine goL ?_
  refine V_cb (fun c5 => ?_) (fun c5 => ?_)
  · have hky32 := kltN c5
    obtain ⟨x6, hx6, hdx6⟩ := drop_at hky32
    rw [hdx6, b_s7All_l1.eq_2] at h
    obtain ⟨x6_0, x6_1, x6_2⟩ := x6
    refine V_skip ?_
    show V _ _ _ _ _
    refine V_seq (V_block ?_)
    refine V_seq_drawX (P := Try.prog) Mix.h [(0, true), (1, true), (2, true), (3, true), (4, true), (5, true), (6, true), (7, true), (8, true), (9, false), (10, true), (11, true), (12, true), (13, true), (14, true)] (by kernel_rfl) ?_
    refine goY ?_
    refine VY_ri rfl (QR_ixn y3 (gType hx6)) ?_
    refine goY ?_
    obtain ⟨x7, hx7, h⟩ := bnd_s h
    rw [at_nat] at hx7
    obtain ⟨x7_0, x7_1, x7_2⟩ := x7
    refine VY_ri rfl (QR_ixn y3 (gType hx7)) ?_
    refine goY ?_
    obtain ⟨x8, hx8, h⟩ := bnd_s h
    obtain ⟨x8_0, x8_1⟩ := x8
    refine VY_cGE [0] (hrec_sMatch (TType.mk x6_0 x6_1 x6_2) (TType.mk x7_0 x7_1 x7_2) y1 v2 hx8) ?_
    rintro _ _ ⟨u10, v9, j11, ⟨q12, rfl, rfl⟩ | ⟨q12, rfl, rfl⟩⟩
    · replace h := cnd_t q12 h
      refine VY_and (sv := .tup [.sl 0 v9, .d (.b true)]) (L' := [.arr 37 4 v9 (eBindings x8_1)]) (by repeat (first | exact PfOk.nil | (apply PfOk.keep; focus ((repeat constructor); done)) | (apply PfOk.dep; focus kernel_rfl))) ?_
      refine goY ?_
      refine VY_nil ?_
      refine goL ?_
      refine V_cf ?_
      refine V_skip ?_
      show V _ _ _ _ _
      refine goL ?_
      refine VO_r (QR_inc y3 (by omega)) ?_
      refine goL ?_
      exact ⟨(y3 + 1), x8_1, v9, h, by omega, ⟨rfl, ⟨⟨rfl, rfl⟩, ⟨rfl, rfl⟩, ⟨rfl, rfl⟩, ⟨rfl, rfl⟩, trivial⟩, ⟨_, rfl⟩, rfl⟩⟩
    · replace h := cnd_f q12 h
      refine VY_and (sv := .tup [.sl 0 u10, .d (.b false)]) (L' := [.arr 37 4 v9 (eBindings j11)]) (by repeat (first | exact PfOk.nil | (apply PfOk.keep; focus ((repeat constructor); done)) | (apply PfOk.dep; focus kernel_rfl))) ?_
      refine goY ?_
      refine VY_nil ?_
      refine goL ?_
      refine V_ct ?_
      refine goL ?_
      refine V_ret ?_
      replace h := Option.some.inj h
      subst h
      exact R_rH [.sl 0 v2, .d (.b false)] [.arr 37 4 v9 (eBindings j11)] ⟨v2, v9, j11, .inr ⟨rfl, rfl, rfl⟩⟩
  · have hky32 := kgeN c5
    rw [drop_end hky32, b_s7All_l1.eq_1] at h
    refine V_exit ?_
    show V _ _ _ _ _
    refine goL ?_
    refine V_ret ?_
    replace h := Option.some.inj h
    subst h
    exact R_rH [.sl 0 v2, .d (.b true)] [.arr 37 4 v2 (eBindings y1)] ⟨v2, v2, [], .inl ⟨rfl, rfl, rfl⟩⟩
mutual
def m_sMatch : Nat → TType → TType → (List TBinding) → Option (Bool × List TBinding)
  | 0, _, _, _ => none
  | n + 1, x0, x1, x2 => b_sMatch (m_sMatch n) (m_s7All n) x0 x1 x2
def m_s7All : Nat → (List TType) → (List TType) → (List TBinding) → Option (Bool × List TBinding)
  | 0, _, _, _ => none
  | n + 1, x0, x1, x2 => b_s7All (m_sMatch n) (m_s7All n) x0 x1 x2
end
theorem ss_sMatch : ∀ (n : Nat), (∀ (x0 : TType) (x1 : TType) (x2 : List TBinding) (w0 : Nat) {r : Bool × List TBinding}, m_sMatch n x0 x1 x2 = some r → Go.Eng.Spec Try.prog 73 [.d (eType x0), .d (eType x1), .sl 0 w0] [.arr 37 4 w0 (eBindings x2)] (fun sv Lo => ∃ (u'0 v'0 : Nat) (j'0 : List TBinding), (r.1 = true ∧ sv = .tup [.sl 0 v'0, .d (.b true)] ∧ Lo = [.arr 37 4 v'0 (eBindings r.2)]) ∨ (r.1 = false ∧ sv = .tup [.sl 0 u'0, .d (.b false)] ∧ Lo = [.arr 37 4 v'0 (eBindings j'0)]))) ∧ (∀ (x0 : List TType) (x1 : List TType) (x2 : List TBinding) (w0 : Nat) {r : Bool × List TBinding}, m_s7All n x0 x1 x2 = some r → Go.Eng.Spec Try.prog 62 [.d (.sl 3 (eTypes x0)), .d (.sl 3 (eTypes x1)), .sl 0 w0] [.arr 37 4 w0 (eBindings x2)] (fun sv Lo => ∃ (u'0 v'0 : Nat) (j'0 : List TBinding), (r.1 = true ∧ sv = .tup [.sl 0 v'0, .d (.b true)] ∧ Lo = [.arr 37 4 v'0 (eBindings r.2)]) ∨ (r.1 = false ∧ sv = .tup [.sl 0 u'0, .d (.b false)] ∧ Lo = [.arr 37 4 v'0 (eBindings j'0)]))) := by
  intro n
  induction n with
  | zero => exact ⟨(by intro x0 x1 x2 w0 r h; cases h), (by intro x0 x1 x2 w0 r h; cases h)⟩
  | succ n ih =>
    obtain ⟨ih0, ih1⟩ := ih
    refine ⟨(fun x0 x1 x2 w0 r h => w_sMatch ih0 ih1 x0 x1 x2 w0 h), (fun x0 x1 x2 w0 r h => w_s7All ih0 ih1 x0 x1 x2 w0 h)⟩
theorem s_s7All : ∀ (n : Nat) (x0 : List TType) (x1 : List TType) (x2 : List TBinding) (w0 : Nat) {r : Bool × List TBinding}, m_s7All n x0 x1 x2 = some r → Go.Eng.Spec Try.prog 62 [.d (.sl 3 (eTypes x0)), .d (.sl 3 (eTypes x1)), .sl 0 w0] [.arr 37 4 w0 (eBindings x2)] (fun sv Lo => ∃ (u'0 v'0 : Nat) (j'0 : List TBinding), (r.1 = true ∧ sv = .tup [.sl 0 v'0, .d (.b true)] ∧ Lo = [.arr 37 4 v'0 (eBindings r.2)]) ∨ (r.1 = false ∧ sv = .tup [.sl 0 u'0, .d (.b false)] ∧ Lo = [.arr 37 4 v'0 (eBindings j'0)])) := fun n => (ss_sMatch n).2
def b_sMatchAll (a0 : List TType) (a1 : List TType) : Option (List TBinding × Bool) :=
(cnd ((a0.length : Int) != (a1.length : Int)) (
(some ([], false))) (
bnd (m_s7All 100000 a0 a1 []) fun x2 =>
(cnd x2.1 (
(some (x2.2, true))) (
(some ([], false))))))
set_option maxHeartbeats 4000000 in
theorem w_sMatchAll (a0 : List TType) (a1 : List TType) {r : List TBinding × Bool} (h : b_sMatchAll a0 a1 = some r) : SpecP Try.prog 44 [.d (.sl 3 (eTypes a0)), .d (.sl 3 (eTypes a1))] [.sl 4 (eBindings r.1), .b r.2] := by
  unfold b_sMatchAll at h
  refine SpecP_intro Try.func44 rfl (by kernel_rfl) rfl fun A _ => ?_
  refine goL ?_
  refine V_cb (fun c1 => ?_) (fun c1 => ?_)
  · replace h := cnd_t c1 h
    refine goL ?_
    refine VO_l0a ?_
    refine goL ?_
    refine V_freeze 0 rfl rfl ?_
    refine V_ret ?_
    replace h := Option.some.inj h
    subst h
    exact R_rP
  · replace h := cnd_f c1 h
    refine V_skip ?_
    show V _ _ _ _ _
    refine goL ?_
    refine VO_l0a ?_
    obtain ⟨x2, hx2, h⟩ := bnd_s h
    obtain ⟨x2_0, x2_1⟩ := x2
    refine VO_cG [0] (s_s7All 100000 a0 a1 [] 0 hx2) ?_
    rintro _ _ ⟨u4, v3, j5, ⟨q6, rfl, rfl⟩ | ⟨q6, rfl, rfl⟩⟩
    · replace h := cnd_t q6 h
      show VO _ _ _ _ ⟨(_, .tup [.sl 0 v3, .d (.b true)]) :: _, [.arr 37 4 v3 (eBindings x2_1)], _⟩ _
      refine goL ?_
      refine V_cf ?_
      refine V_skip ?_
      show V _ _ _ _ _
      refine goL ?_
      refine V_freeze 0 rfl rfl ?_
      refine V_ret ?_
      replace h := Option.some.inj h
      subst h
      exact R_rP
    · replace h := cnd_f q6 h
      show VO _ _ _ _ ⟨(_, .tup [.sl 0 u4, .d (.b false)]) :: _, [.arr 37 4 v3 (eBindings j5)], _⟩ _
      refine goL ?_
      refine V_ct ?_
      refine goL ?_
      refine VO_l0a ?_
      refine goL ?_
      refine V_freeze 1 rfl rfl ?_
      refine V_ret ?_
      replace h := Option.some.inj h
      subst h
      exact R_rP
def b_sMatchF (a0 : TType) (a1 : TType) : Option (List TBinding × Bool) :=
bnd (b_sMatchAll [a0] [a1]) fun x1 =>
(some (x1.1, x1.2))
set_option maxHeartbeats 4000000 in
theorem w_sMatchF (a0 : TType) (a1 : TType) {r : List TBinding × Bool} (h : b_sMatchF a0 a1 = some r) : SpecP Try.prog 24 [.d (eType a0), .d (eType a1)] [.sl 4 (eBindings r.1), .b r.2] := by
  obtain ⟨a0_0, a0_1, a0_2⟩ := a0
  obtain ⟨a1_0, a1_1, a1_2⟩ := a1
  unfold b_sMatchF at h
  refine SpecP_intro Try.func24 rfl (by kernel_rfl) rfl fun A _ => ?_
  refine goL ?_
  refine VO_la1 (u := (.st [.i .i64 a0_0, .s a0_1, .sl 3 (eTypes a0_2)])) ?_
  refine goL ?_
  refine VO_la1 (u := (.st [.i .i64 a1_0, .s a1_1, .sl 3 (eTypes a1_2)])) ?_
  refine VO_freeze 2 rfl rfl ?_
  refine VO_freeze 3 rfl rfl ?_
  obtain ⟨x1, hx1, h⟩ := bnd_s h
  obtain ⟨x1_0, x1_1⟩ := x1
  refine VO_k (Q_cl (w_sMatchAll [(TType.mk a0_0 a0_1 a0_2)] [(TType.mk a1_0 a1_1 a1_2)] hx1)) ?_
  refine goL ?_
  refine V_ret ?_
  replace h := Option.some.inj h
  subst h
  exact R_rP
def b_sMatches (a0 : TType) (a1 : TType) : Option (Bool) :=
bnd (b_sMatchF a0 a1) fun x1 =>
(some x1.2)
set_option maxHeartbeats 4000000 in
theorem w_sMatches (a0 : TType) (a1 : TType) {r : Bool} (h : b_sMatches a0 a1 = some r) : SpecP Try.prog 10 [.d (eType a0), .d (eType a1)] [.b r] := by
  obtain ⟨a0_0, a0_1, a0_2⟩ := a0
  obtain ⟨a1_0, a1_1, a1_2⟩ := a1
  unfold b_sMatches at h
  refine SpecP_intro Try.func10 rfl (by kernel_rfl) rfl fun A _ => ?_
  refine goL ?_
  obtain ⟨x1, hx1, h⟩ := bnd_s h
  obtain ⟨x1_0, x1_1⟩ := x1
  refine VO_r (QR_call (w_sMatchF (TType.mk a0_0 a0_1 a0_2) (TType.mk a1_0 a1_1 a1_2) hx1)) ?_
  refine goL ?_
  refine V_ret ?_
  replace h := Option.some.inj h
  subst h
  exact R_rP
end Go.Proofs.Ytiaghdodeinecaa
set_option linter.unusedVariables false
set_option linter.unusedSimpArgs false
set_option linter.unusedSectionVars false
namespace Go.Proofs.Ytiaghdodeinecaa
open Go Go.Eng
attribute [local irreducible] V VO VQ VY Quiet QR SpecP SpecO Rng PostP PostO PostG
/-! ### matching: the reference -/
theorem sMatch_row {n : Nat} (ih : ∀ (p t : TType) (l : List TBinding), 2 * tnd p ≤ n → bok l → tok t → l.length + tnd p ≤ 4000000 → ∃ q, m_sMatch n p t l = some q ∧ Agr (mtT p t l) q) (all : List TType) (hall : ∀ t ∈ all, tok t) :
    ∀ (xs : List TType) (k : Nat) (l : List TBinding), 2 * tnds xs ≤ n → bok l → all.length = k + xs.length → l.length + tnds xs ≤ 4000000 → ∃ q, b_s7All_l1 (m_sMatch n) all xs k l = some q ∧ Agr (mtTs xs (all.drop k) l) q
  | [], k, l, _, _, h, _ => ⟨_, rfl, rfl⟩
  | x :: xs, k, l, hn, hb, h, hl => by
    simp only [List.length_cons] at h
    simp only [tnds] at hn hl
    have hk : k < all.length := by omega
    have hx : all[k]? = some all[k] := List.getElem?_eq_getElem hk
    obtain ⟨q, e1, e2⟩ := ih x all[k] l (by omega) hb (hall _ (List.getElem_mem hk)) (by omega)
    rw [b_s7All_l1.eq_2, at_nat, hx, List.drop_eq_getElem_cons hk]
    simp only [bnd, e1, mtTs]
    cases hm : mtT x all[k] l with
    | none =>
      rw [hm] at e2
      have e3 : q.1 = false := e2
      simp only [e3, cnd_false]
      exact ⟨_, rfl, rfl⟩
    | some l1 =>
      rw [hm] at e2
      have e3 : q = (true, l1) := e2
      subst e3
      simp only [cnd_true]
      obtain ⟨r1, r2⟩ := mtT_rng rtok x all[k] l l1 (hall _ (List.getElem_mem hk)) hb hm
      exact sMatch_row ih all hall xs (k + 1) l1 (by omega) r1 (by omega) (by omega)
theorem sMatch_eq : ∀ (n : Nat), (∀ (p t : TType) (l : List TBinding), 2 * tnd p ≤ n → bok l → tok t → l.length + tnd p ≤ 4000000 → ∃ q, m_sMatch n p t l = some q ∧ Agr (mtT p t l) q) ∧
    (∀ (ps ts : List TType) (l : List TBinding), 2 * tnds ps + 1 ≤ n → bok l → (∀ t ∈ ts, tok t) → ts.length = ps.length → l.length + tnds ps ≤ 4000000 → ∃ q, m_s7All n ps ts l = some q ∧ Agr (mtTs ps ts l) q)
  | 0 => ⟨fun p t l h => by have := tnd_pos p; omega, fun ps ts l h => by omega⟩
  | n + 1 => by
    obtain ⟨ih1, ih2⟩ := sMatch_eq n
    refine ⟨fun p t l hn hb ht hl => ?_, fun ps ts l hn hb ht hlen hl => ?_⟩
    · obtain ⟨k, nm, ps⟩ := p
      simp only [tnd] at hn hl
      rw [m_sMatch.eq_2]
      unfold b_sMatch
      simp only [lt_, idT, mtT]
      cases hk : (k == 1) with
      | true =>
        simp only [cnd_true]
        have hlk : b_sLookup l nm = some (lkp nm l) := sLookup_l1_eq nm l hb
        rw [bnd_eq hlk]
        cases (lkp nm l).2 with
        | true =>
          simp only [cnd_true]
          refine ⟨_, rfl, ?_⟩
          cases teq (lkp nm l).1 t <;> rfl
        | false =>
          simp only [cnd_false]
          rw [gd_eq ht, gd_eq (by simp; omega)]
          exact ⟨_, rfl, rfl⟩
      | false =>
        simp only [cnd_false]
        cases h1 : (cnd (k != t.kind) true (cnd (!(nm == t.name)) true ((ps.length : Int) != (t.args.length : Int)))) with
        | true => simp only [cnd_true]; exact ⟨_, rfl, rfl⟩
        | false =>
          simp only [cnd_false]
          have hlen : t.args.length = ps.length := by
            cases h2 : (k != t.kind) with
            | true => rw [h2] at h1; simp [cnd_true] at h1
            | false =>
              rw [h2] at h1
              simp only [cnd_false] at h1
              cases h3 : (!(nm == t.name)) with
              | true => rw [h3] at h1; simp [cnd_true] at h1
              | false =>
                rw [h3] at h1
                simp only [cnd_false] at h1
                have : ((ps.length : Int)) = t.args.length := by simpa using h1
                omega
          obtain ⟨q, e1, e2⟩ := ih2 ps t.args l (by omega) hb (rtok t ht) hlen (by omega)
          rw [bnd_eq e1]
          cases hm : mtTs ps t.args l with
          | none =>
            rw [hm] at e2
            have e3 : q.1 = false := e2
            simp only [e3, cnd_false]
            exact ⟨_, rfl, rfl⟩
          | some l1 =>
            rw [hm] at e2
            have e3 : q = (true, l1) := e2
            subst e3
            exact ⟨_, rfl, rfl⟩
    · rw [m_s7All.eq_2]
      unfold b_s7All
      have := sMatch_row ih1 ts ht ps 0 l (by omega) hb (by omega) (by omega)
      rwa [List.drop_zero] at this
theorem sMatches_eq (p t : TType) (hp : tnd p ≤ 40000) (ht : tok t) : b_sMatches p t = some (mtT p t []).isSome := by
  obtain ⟨q, e1, e2⟩ := (sMatch_eq 100000).2 [p] [t] [] (by simp only [tnds]; omega) (fun b hb => by simp at hb) (by simpa using ht) rfl (by simp [tnds]; omega)
  have h0 : ((([p] : List TType).length : Int) != (([t] : List TType).length : Int)) = false := by simp
  unfold b_sMatches b_sMatchF b_sMatchAll
  rw [h0, cnd_false, bnd_eq e1]
  simp only [mtTs] at e2
  cases hm : mtT p t [] with
  | none =>
    rw [hm] at e2
    have e3 : q.1 = false := e2
    rw [e3]
    rfl
  | some l =>
    rw [hm] at e2
    have e3 : q = (true, l) := e2
    subst e3
    rfl
end Go.Proofs.Ytiaghdodeinecaa
