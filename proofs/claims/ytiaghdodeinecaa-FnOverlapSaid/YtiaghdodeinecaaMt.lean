/- Um1. Written by a program of mine (aw.py). -/
import Derived.Test.YtiaghdodeinecaaEng43
import Derived.Test.YtiaghdodeinecaaUn1
import Derived.Test.YtiaghdodeinecaaUc1
set_option linter.unusedVariables false
set_option linter.unusedSimpArgs false
set_option linter.unusedSectionVars false
namespace Go.Proofs.Ytiaghdodeinecaa
open Go Go.Eng
attribute [local irreducible] V VO VQ VY Quiet QR SpecP SpecO Rng PostP PostO PostG
def b_iMatch (rec_iMatch : (List TBinding) → TType → TType → Option (Bool × List TBinding)) (rec_iMatchAll : (List TBinding) → (List TType) → (List TType) → Option (Bool × List TBinding)) (l0 : List TBinding) (p : TType) (t : TType) : Option (Bool × List TBinding) :=
(cnd (p.kind == 1) (
bnd (b_iLookup l0 p.name) fun x2 =>
(cnd x2.2 (
(some ((teq x2.1 t), l0))) (
gd (tok t) (lt_ (idT t) fun x5 =>
gd (l0.length + [(TBinding.mk p.name x5)].length ≤ 4294967296) (
(some (true, (l0 ++ [(TBinding.mk p.name x5)])))))))) (
lt_ ((cnd (p.kind != t.kind) (true) ((!(p.name == t.name))))) fun b7 =>
(cnd b7 (
(some (false, []))) (
bnd (rec_iMatchAll l0 p.args t.args) fun x10 =>
(some (x10.1, x10.2))))))
set_option maxHeartbeats 4000000 in
theorem w_iMatch {rec_iMatch : (List TBinding) → TType → TType → Option (Bool × List TBinding)} {rec_iMatchAll : (List TBinding) → (List TType) → (List TType) → Option (Bool × List TBinding)} (hrec_iMatch : ∀ (x0 : List TBinding) (x1 : TType) (x2 : TType) (w0 : Nat) {r : Bool × List TBinding}, rec_iMatch x0 x1 x2 = some r → Go.Eng.Spec Try.prog 71 [.sl 0 w0, .d (eType x1), .d (eType x2)] [.arr 37 4 w0 (eBindings x0)] (fun sv Lo => ∃ v'0, sv = .tup [.sl 0 v'0, .d (.b r.1)] ∧ Lo = [.arr 37 4 v'0 (eBindings r.2)])) (hrec_iMatchAll : ∀ (x0 : List TBinding) (x1 : List TType) (x2 : List TType) (w0 : Nat) {r : Bool × List TBinding}, rec_iMatchAll x0 x1 x2 = some r → Go.Eng.Spec Try.prog 55 [.sl 0 w0, .d (.sl 3 (eTypes x1)), .d (.sl 3 (eTypes x2))] [.arr 37 4 w0 (eBindings x0)] (fun sv Lo => ∃ v'0, sv = .tup [.sl 0 v'0, .d (.b r.1)] ∧ Lo = [.arr 37 4 v'0 (eBindings r.2)])) (l0 : List TBinding) (p : TType) (t : TType) (v0 : Nat) {r : Bool × List TBinding} (h : b_iMatch rec_iMatch rec_iMatchAll l0 p t = some r) : Go.Eng.Spec Try.prog 71 [.sl 0 v0, .d (eType p), .d (eType t)] [.arr 37 4 v0 (eBindings l0)] (fun sv Lo => ∃ v'0, sv = .tup [.sl 0 v'0, .d (.b r.1)] ∧ Lo = [.arr 37 4 v'0 (eBindings r.2)]) := by
  obtain ⟨p_0, p_1, p_2⟩ := p
  obtain ⟨t_0, t_1, t_2⟩ := t
  unfold b_iMatch at h
  refine Spec_intro 1 Try.func71 rfl (by kernel_rfl) rfl rfl fun A _ => ?_
  refine goL ?_
  refine V_cb (fun c1 => ?_) (fun c1 => ?_)
  · replace h := cnd_t c1 h
    refine goL ?_
    obtain ⟨x2, hx2, h⟩ := bnd_s h
    obtain ⟨⟨x2_0_0, x2_0_1, x2_0_2⟩, x2_1⟩ := x2
    refine VO_co (w_iLookup l0 p_1 hx2) ?_
    refine goL ?_
    refine V_cb (fun c3 => ?_) (fun c3 => ?_)
    · replace h := cnd_t c3 h
      refine goL ?_
      refine VO_k (Q_cb (t_iEqualType (TType.mk x2_0_0 x2_0_1 x2_0_2) (TType.mk t_0 t_1 t_2))) ?_
      refine goL ?_
      refine V_ret ?_
      replace h := Option.some.inj h
      subst h
      exact R_rH [.sl 0 v0, .d (.b (teq (TType.mk x2_0_0 x2_0_1 x2_0_2) (TType.mk t_0 t_1 t_2)))] [.arr 37 4 v0 (eBindings l0)] ⟨v0, rfl, rfl⟩
    · replace h := cnd_f c3 h
      refine V_skip ?_
      show V _ _ _ _ _
      refine V_seq_drawX (P := Try.prog) Mix.h [(0, true), (1, true), (2, true), (3, true), (4, false), (5, true), (6, false), (7, false), (8, true), (9, true)] (by kernel_rfl) ?_
      refine goY ?_
      obtain ⟨g4, h⟩ := gd_s h
      obtain ⟨x5, hx5, h⟩ := lt_x h
      obtain ⟨x5_0, x5_1, x5_2⟩ := x5
      have sx5 := t_iCopyType (TType.mk t_0 t_1 t_2) g4
      rw [hx5] at sx5
      refine VY_co (sx5) ?_
      refine goY ?_
      refine VY_frzO 5 rfl rfl ?_
      refine VY_lb (T := 38) (us := eBindings [(TBinding.mk p_1 (TType.mk x5_0 x5_1 x5_2))]) ?_
      obtain ⟨g6, h⟩ := gd_s h
      refine VY_apa (T := 38) g6 ?_
      refine goY ?_
      refine VY_nil ?_
      refine goL ?_
      refine V_ret ?_
      replace h := Option.some.inj h
      subst h
      exact R_rH [.sl 0 (v0 + 1), .d (.b true)] [.arr 37 4 (v0 + 1) (eBindings (l0 ++ [(TBinding.mk p_1 (TType.mk x5_0 x5_1 x5_2))]))] ⟨(v0 + 1), rfl, rfl⟩
  · replace h := cnd_f c1 h
    refine V_skip ?_
    show V _ _ _ _ _
    refine goL ?_
    obtain ⟨b7, hb7, h⟩ := lt_x h
    refine VO_join ⟨[(0, .sl 0 v0), (4, .ptr 1 0), (5, .ptr 2 0), (44, .d (.b b7))], [.arr 37 4 v0 (eBindings l0), .box [.d (.i .i64 p_0), .d (.s p_1), .d (.sl 3 (eTypes p_2))], .box [.d (.i .i64 t_0), .d (.s t_1), .d (.sl 3 (eTypes t_2))]], Try.f71.ntmps⟩ ?_ ?_
    · refine VO_case 38 (fun c8 => ?_) (fun c8 => ?_)
      · replace hb7 := cnd_t c8 hb7
        refine goL ?_
        cases hb7
        exact ⟨rfl, ⟨⟨rfl, rfl⟩, ⟨rfl, rfl⟩, ⟨rfl, rfl⟩, ⟨rfl, rfl⟩, trivial⟩, ⟨[], rfl⟩, rfl⟩
      · replace hb7 := cnd_f c8 hb7
        refine goL ?_
        cases hb7
        exact ⟨rfl, ⟨⟨rfl, rfl⟩, ⟨rfl, rfl⟩, ⟨rfl, rfl⟩, ⟨rfl, rfl⟩, trivial⟩, ⟨[], rfl⟩, rfl⟩
    refine goL ?_
    refine V_cb (fun c9 => ?_) (fun c9 => ?_)
    · replace h := cnd_t c9 h
      refine goL ?_
      refine V_nilA 6 0 ?_
      refine V_ret ?_
      replace h := Option.some.inj h
      subst h
      exact R_rH [.sl 0 (v0 + 1), .d (.b false)] [.arr 37 4 (v0 + 1) []] ⟨(v0 + 1), rfl, rfl⟩
    · replace h := cnd_f c9 h
      refine V_skip ?_
      show V _ _ _ _ _
      refine goL ?_
      obtain ⟨x10, hx10, h⟩ := bnd_s h
      obtain ⟨x10_0, x10_1⟩ := x10
      refine VO_cG [0] (hrec_iMatchAll l0 p_2 t_2 v0 hx10) ?_
      rintro _ _ ⟨v11, rfl, rfl⟩
      show VO _ _ _ _ ⟨(_, .tup [.sl 0 v11, .d (.b x10_0)]) :: _, [.arr 37 4 v11 (eBindings x10_1), .box [.d (.i .i64 p_0), .d (.s p_1), .d (.sl 3 (eTypes p_2))], .box [.d (.i .i64 t_0), .d (.s t_1), .d (.sl 3 (eTypes t_2))]], _⟩ _
      refine goL ?_
      refine V_ret ?_
      replace h := Option.some.inj h
      subst h
      exact R_rH [.sl 0 v11, .d (.b x10_0)] [.arr 37 4 v11 (eBindings x10_1)] ⟨v11, rfl, rfl⟩
def b_iMatchAll_l1 (rec_iMatch : (List TBinding) → TType → TType → Option (Bool × List TBinding)) (all : List TType) : List TType → Nat → (List TBinding) → Option (Bool × List TBinding)
  | [], y4, y2 => (some (true, y2))
  | x7 :: xs, y4, y2 => bnd (at? all (y4 : Int)) fun x8 =>
bnd (rec_iMatch y2 x7 x8) fun x9 =>
(cnd (!x9.1) (
(some (false, []))) (
b_iMatchAll_l1 rec_iMatch all xs (y4 + 1) x9.2))
def b_iMatchAll (rec_iMatch : (List TBinding) → TType → TType → Option (Bool × List TBinding)) (rec_iMatchAll : (List TBinding) → (List TType) → (List TType) → Option (Bool × List TBinding)) (l0 : List TBinding) (p : List TType) (all : List TType) : Option (Bool × List TBinding) :=
(cnd ((p.length : Int) != (all.length : Int)) (
(some (false, []))) (
b_iMatchAll_l1 rec_iMatch all p 0 l0))
set_option maxHeartbeats 4000000 in
theorem w_iMatchAll {rec_iMatch : (List TBinding) → TType → TType → Option (Bool × List TBinding)} {rec_iMatchAll : (List TBinding) → (List TType) → (List TType) → Option (Bool × List TBinding)} (hrec_iMatch : ∀ (x0 : List TBinding) (x1 : TType) (x2 : TType) (w0 : Nat) {r : Bool × List TBinding}, rec_iMatch x0 x1 x2 = some r → Go.Eng.Spec Try.prog 71 [.sl 0 w0, .d (eType x1), .d (eType x2)] [.arr 37 4 w0 (eBindings x0)] (fun sv Lo => ∃ v'0, sv = .tup [.sl 0 v'0, .d (.b r.1)] ∧ Lo = [.arr 37 4 v'0 (eBindings r.2)])) (hrec_iMatchAll : ∀ (x0 : List TBinding) (x1 : List TType) (x2 : List TType) (w0 : Nat) {r : Bool × List TBinding}, rec_iMatchAll x0 x1 x2 = some r → Go.Eng.Spec Try.prog 55 [.sl 0 w0, .d (.sl 3 (eTypes x1)), .d (.sl 3 (eTypes x2))] [.arr 37 4 w0 (eBindings x0)] (fun sv Lo => ∃ v'0, sv = .tup [.sl 0 v'0, .d (.b r.1)] ∧ Lo = [.arr 37 4 v'0 (eBindings r.2)])) (l0 : List TBinding) (p : List TType) (all : List TType) (v0 : Nat) {r : Bool × List TBinding} (h : b_iMatchAll rec_iMatch rec_iMatchAll l0 p all = some r) : Go.Eng.Spec Try.prog 55 [.sl 0 v0, .d (.sl 3 (eTypes p)), .d (.sl 3 (eTypes all))] [.arr 37 4 v0 (eBindings l0)] (fun sv Lo => ∃ v'0, sv = .tup [.sl 0 v'0, .d (.b r.1)] ∧ Lo = [.arr 37 4 v'0 (eBindings r.2)]) := by
  unfold b_iMatchAll at h
  refine Spec_intro 1 Try.func55 rfl (by kernel_rfl) rfl rfl fun A _ => ?_
  refine goL ?_
  refine V_cb (fun c1 => ?_) (fun c1 => ?_)
  · replace h := cnd_t c1 h
    refine goL ?_
    refine V_nilA 6 0 ?_
    refine V_ret ?_
    replace h := Option.some.inj h
    subst h
    exact R_rH [.sl 0 (v0 + 1), .d (.b false)] [.arr 37 4 (v0 + 1) []] ⟨(v0 + 1), rfl, rfl⟩
  · replace h := cnd_f c1 h
    refine V_skip ?_
    show V _ _ _ _ _
    refine goL ?_
    refine V_block ?_
    show V _ _ _ _ _
    refine V_bd 1 (fun z5 => ?_)
    refine V_loop3 (fun (y4 : Nat) (y2 : List TBinding) (v3 : Nat) => ⟨[(0, .sl 0 v3), (1, .d (.sl 3 (eTypes p))), (2, .d (.sl 3 (eTypes all))), (17, .d (.i .i64 (p.length : Int))), (18, .d (.i .i64 (y4 : Int)))], [.arr 37 4 v3 (eBindings y2)], Try.f55.ntmps⟩) (fun y4 y2 v3 => b_iMatchAll_l1 rec_iMatch all (p.drop y4) y4 y2 = some r) (fun y4 y2 v3 => p.length - y4) 0 l0 v0 ⟨rfl, ⟨⟨rfl, rfl⟩, ⟨rfl, rfl⟩, ⟨rfl, rfl⟩, ⟨rfl, rfl⟩, ⟨rfl, rfl⟩, trivial⟩, ⟨[], rfl⟩, rfl⟩ h ?_
    rintro y4 y2 v3 h
    refine goL ?_
    refine V_seq (V_cb (fun c6 => ?_) (fun c6 => ?_))
    · have hky42 := kltN c6
      obtain ⟨x7, hx7, hdx7⟩ := drop_at hky42
      rw [hdx7, b_iMatchAll_l1.eq_2] at h
      obtain ⟨x7_0, x7_1, x7_2⟩ := x7
      refine V_skip ?_
      show V _ _ _ _ _
      refine V_seq (V_block ?_)
      refine goNL ?_
      refine V_seq_drawX (P := Try.prog) Mix.h [(0, true), (1, true), (2, true), (3, true), (4, true), (5, true), (6, true), (7, true), (8, true), (9, false), (10, true), (11, true), (12, true), (13, true), (14, true)] (by kernel_rfl) ?_
      refine goY ?_
      refine VY_ri rfl (QR_ixn y4 (gType hx7)) ?_
      refine goY ?_
      obtain ⟨x8, hx8, h⟩ := bnd_s h
      rw [at_nat] at hx8
      obtain ⟨x8_0, x8_1, x8_2⟩ := x8
      refine VY_ri rfl (QR_ixn y4 (gType hx8)) ?_
      refine goY ?_
      obtain ⟨x9, hx9, h⟩ := bnd_s h
      obtain ⟨x9_0, x9_1⟩ := x9
      refine VY_cGE [0] (hrec_iMatch y2 (TType.mk x7_0 x7_1 x7_2) (TType.mk x8_0 x8_1 x8_2) v3 hx9) ?_
      rintro _ _ ⟨v10, rfl, rfl⟩
      refine VY_and (sv := .tup [.sl 0 v10, .d (.b x9_0)]) (L' := [.arr 37 4 v10 (eBindings x9_1)]) (by repeat (first | exact PfOk.nil | (apply PfOk.keep; focus ((repeat constructor); done)) | (apply PfOk.dep; focus kernel_rfl))) ?_
      refine goY ?_
      refine VY_nil ?_
      refine goL ?_
      refine V_cb (fun c11 => ?_) (fun c11 => ?_)
      · replace h := cnd_t c11 h
        refine goL ?_
        refine V_nilA 6 0 ?_
        refine V_ret ?_
        replace h := Option.some.inj h
        subst h
        exact R_rH [.sl 0 (v10 + 1), .d (.b false)] [.arr 37 4 (v10 + 1) []] ⟨(v10 + 1), rfl, rfl⟩
      · replace h := cnd_f c11 h
        refine V_skip ?_
        show V _ _ _ _ _
        refine goL ?_
        refine VO_r (QR_inc y4 (by omega)) ?_
        refine goL ?_
        exact ⟨(y4 + 1), x9_1, v10, h, by omega, ⟨rfl, ⟨⟨rfl, rfl⟩, ⟨rfl, rfl⟩, ⟨rfl, rfl⟩, ⟨rfl, rfl⟩, ⟨rfl, rfl⟩, trivial⟩, ⟨_, rfl⟩, rfl⟩⟩
    · have hky42 := kgeN c6
      rw [drop_end hky42, b_iMatchAll_l1.eq_1] at h
      refine V_exit ?_
      show V _ _ _ _ _
      refine goL ?_
      refine V_ret ?_
      replace h := Option.some.inj h
      subst h
      exact R_rH [.sl 0 v3, .d (.b true)] [.arr 37 4 v3 (eBindings y2)] ⟨v3, rfl, rfl⟩
mutual
def m_iMatch : Nat → (List TBinding) → TType → TType → Option (Bool × List TBinding)
  | 0, _, _, _ => none
  | n + 1, x0, x1, x2 => b_iMatch (m_iMatch n) (m_iMatchAll n) x0 x1 x2
def m_iMatchAll : Nat → (List TBinding) → (List TType) → (List TType) → Option (Bool × List TBinding)
  | 0, _, _, _ => none
  | n + 1, x0, x1, x2 => b_iMatchAll (m_iMatch n) (m_iMatchAll n) x0 x1 x2
end
theorem ss_iMatch : ∀ (n : Nat), (∀ (x0 : List TBinding) (x1 : TType) (x2 : TType) (w0 : Nat) {r : Bool × List TBinding}, m_iMatch n x0 x1 x2 = some r → Go.Eng.Spec Try.prog 71 [.sl 0 w0, .d (eType x1), .d (eType x2)] [.arr 37 4 w0 (eBindings x0)] (fun sv Lo => ∃ v'0, sv = .tup [.sl 0 v'0, .d (.b r.1)] ∧ Lo = [.arr 37 4 v'0 (eBindings r.2)])) ∧ (∀ (x0 : List TBinding) (x1 : List TType) (x2 : List TType) (w0 : Nat) {r : Bool × List TBinding}, m_iMatchAll n x0 x1 x2 = some r → Go.Eng.Spec Try.prog 55 [.sl 0 w0, .d (.sl 3 (eTypes x1)), .d (.sl 3 (eTypes x2))] [.arr 37 4 w0 (eBindings x0)] (fun sv Lo => ∃ v'0, sv = .tup [.sl 0 v'0, .d (.b r.1)] ∧ Lo = [.arr 37 4 v'0 (eBindings r.2)])) := by
  intro n
  induction n with
  | zero => exact ⟨(by intro x0 x1 x2 w0 r h; cases h), (by intro x0 x1 x2 w0 r h; cases h)⟩
  | succ n ih =>
    obtain ⟨ih0, ih1⟩ := ih
    refine ⟨(fun x0 x1 x2 w0 r h => w_iMatch ih0 ih1 x0 x1 x2 w0 h), (fun x0 x1 x2 w0 r h => w_iMatchAll ih0 ih1 x0 x1 x2 w0 h)⟩
theorem s_iMatchAll : ∀ (n : Nat) (x0 : List TBinding) (x1 : List TType) (x2 : List TType) (w0 : Nat) {r : Bool × List TBinding}, m_iMatchAll n x0 x1 x2 = some r → Go.Eng.Spec Try.prog 55 [.sl 0 w0, .d (.sl 3 (eTypes x1)), .d (.sl 3 (eTypes x2))] [.arr 37 4 w0 (eBindings x0)] (fun sv Lo => ∃ v'0, sv = .tup [.sl 0 v'0, .d (.b r.1)] ∧ Lo = [.arr 37 4 v'0 (eBindings r.2)]) := fun n => (ss_iMatch n).2
def iMatchAllNil (a b : List TType) : Option (List TBinding × Bool) := (m_iMatchAll 100000 [] a b).map fun r => (r.2, r.1)
theorem t_iMatchAllNil (a b : List TType) {r : List TBinding × Bool} (h : iMatchAllNil a b = some r) : Go.Eng.Spec Try.prog 55 [.nilsl, .d (.sl 3 (eTypes a)), .d (.sl 3 (eTypes b))] [] (fun sv Lo => sv = .tup [.d (.sl 4 (eBindings r.1)), .d (.b r.2)] ∧ Lo = []) := by
  unfold iMatchAllNil at h
  cases hm : m_iMatchAll 100000 [] a b with
  | none => rw [hm] at h; cases h
  | some p =>
    rw [hm] at h
    simp only [Option.map_some, Option.some.injEq] at h
    subst h
    exact Spec.nilF (s_iMatchAll 100000 [] a b 0 hm)
def b_iMatchF (a0 : TType) (a1 : TType) : Option (List TBinding × Bool) :=
bnd (iMatchAllNil [a0] [a1]) fun x1 =>
(some (x1.1, x1.2))
set_option maxHeartbeats 4000000 in
theorem w_iMatchF (a0 : TType) (a1 : TType) {r : List TBinding × Bool} (h : b_iMatchF a0 a1 = some r) : SpecP Try.prog 31 [.d (eType a0), .d (eType a1)] [.sl 4 (eBindings r.1), .b r.2] := by
  obtain ⟨a0_0, a0_1, a0_2⟩ := a0
  obtain ⟨a1_0, a1_1, a1_2⟩ := a1
  unfold b_iMatchF at h
  refine SpecP_intro Try.func31 rfl (by kernel_rfl) rfl fun A _ => ?_
  refine goL ?_
  refine VO_la1 (u := (.st [.i .i64 a0_0, .s a0_1, .sl 3 (eTypes a0_2)])) ?_
  refine goL ?_
  refine VO_la1 (u := (.st [.i .i64 a1_0, .s a1_1, .sl 3 (eTypes a1_2)])) ?_
  refine VO_freeze 2 rfl rfl ?_
  refine VO_freeze 3 rfl rfl ?_
  obtain ⟨x1, hx1, h⟩ := bnd_s h
  obtain ⟨x1_0, x1_1⟩ := x1
  refine VO_cG [] (t_iMatchAllNil [(TType.mk a0_0 a0_1 a0_2)] [(TType.mk a1_0 a1_1 a1_2)] hx1) ?_
  rintro _ _ ⟨rfl, rfl⟩
  show VO _ _ _ _ ⟨(_, .tup [.d (.sl 4 (eBindings x1_0)), .d (.b x1_1)]) :: _, [.box [.d (.i .i64 a0_0), .d (.s a0_1), .d (.sl 3 (eTypes a0_2))], .box [.d (.i .i64 a1_0), .d (.s a1_1), .d (.sl 3 (eTypes a1_2))], .frz 27 3 0 (eTypes [(TType.mk a0_0 a0_1 a0_2)]), .frz 27 3 0 (eTypes [(TType.mk a1_0 a1_1 a1_2)])], _⟩ _
  refine goL ?_
  refine V_ret ?_
  replace h := Option.some.inj h
  subst h
  exact R_rP
def b_iMatches (a0 : TType) (a1 : TType) : Option (Bool) :=
bnd (b_iMatchF a0 a1) fun x1 =>
(some x1.2)
set_option maxHeartbeats 4000000 in
theorem w_iMatches (a0 : TType) (a1 : TType) {r : Bool} (h : b_iMatches a0 a1 = some r) : SpecP Try.prog 15 [.d (eType a0), .d (eType a1)] [.b r] := by
  obtain ⟨a0_0, a0_1, a0_2⟩ := a0
  obtain ⟨a1_0, a1_1, a1_2⟩ := a1
  unfold b_iMatches at h
  refine SpecP_intro Try.func15 rfl (by kernel_rfl) rfl fun A _ => ?_
  refine goL ?_
  obtain ⟨x1, hx1, h⟩ := bnd_s h
  obtain ⟨x1_0, x1_1⟩ := x1
  refine VO_r (QR_call (w_iMatchF (TType.mk a0_0 a0_1 a0_2) (TType.mk a1_0 a1_1 a1_2) hx1)) ?_
  refine goL ?_
  refine V_ret ?_
  replace h := Option.some.inj h
  subst h
  exact R_rP
end Go.Proofs.Ytiaghdodeinecaa
set_option linter.unusedVariables false
set_option linter.unusedSimpArgs false
set_option linter.unusedSectionVars false
namespace Go.Proofs.Ytiaghdodeinecaa
open Go Go.Eng
attribute [local irreducible] V VO VQ VY Quiet QR SpecP SpecO Rng PostP PostO PostG
/-! ### matching, by hand -/
mutual
def mtT : TType → TType → List TBinding → Option (List TBinding)
  | ⟨k, n, ps⟩, t, l => cnd (k == 1) (cnd (lkp n l).2 (cnd (teq (lkp n l).1 t) (some l) none) (some (l ++ [⟨n, t⟩])))
      (cnd (cnd (k != t.kind) true (cnd (!(n == t.name)) true ((ps.length : Int) != (t.args.length : Int)))) none (mtTs ps t.args l))
def mtTs : List TType → List TType → List TBinding → Option (List TBinding)
  | [], _, l => some l
  | _ :: _, [], _ => none
  | p :: ps, t :: ts, l => bnd (mtT p t l) fun l' => mtTs ps ts l'
end
/-- What a program answers where r comes out. -/
def Agr : Option (List TBinding) → Bool × List TBinding → Prop
  | none, q => q.1 = false
  | some l, q => q = (true, l)
mutual
theorem mtT_rng {Q : TType → Prop} (hQ : ∀ x, Q x → ∀ y ∈ x.args, Q y) : ∀ (p t : TType) (l l' : List TBinding), Q t → (∀ b ∈ l, Q b.type_) → mtT p t l = some l' → (∀ b ∈ l', Q b.type_) ∧ l'.length ≤ l.length + tnd p
  | ⟨k, n, ps⟩, t, l, l', ht, hl, h => by
    simp only [mtT] at h
    simp only [tnd]
    cases hk : (k == 1) with
    | true =>
      simp only [hk, cnd_true] at h
      cases hb : (lkp n l).2 with
      | true =>
        simp only [hb, cnd_true] at h
        cases he : teq (lkp n l).1 t with
        | true => simp only [he, cnd_true, Option.some.injEq] at h; subst h; exact ⟨hl, by omega⟩
        | false => simp [he, cnd_false] at h
      | false =>
        simp only [hb, cnd_false, Option.some.injEq] at h
        subst h
        refine ⟨fun b hb' => ?_, by simp only [List.length_append, List.length_cons, List.length_nil]; omega⟩
        rcases List.mem_append.1 hb' with hb' | hb'
        · exact hl b hb'
        · simp only [List.mem_singleton] at hb'
          subst hb'
          exact ht
    | false =>
      simp only [hk, cnd_false] at h
      cases hc : (cnd (k != t.kind) true (cnd (!(n == t.name)) true ((ps.length : Int) != (t.args.length : Int)))) with
      | true => simp [hc, cnd_true] at h
      | false =>
        simp only [hc, cnd_false] at h
        have := mtTs_rng hQ ps t.args l l' (hQ t ht) hl h
        exact ⟨this.1, by omega⟩
theorem mtTs_rng {Q : TType → Prop} (hQ : ∀ x, Q x → ∀ y ∈ x.args, Q y) : ∀ (ps ts : List TType) (l l' : List TBinding), (∀ t ∈ ts, Q t) → (∀ b ∈ l, Q b.type_) → mtTs ps ts l = some l' → (∀ b ∈ l', Q b.type_) ∧ l'.length ≤ l.length + tnds ps
  | [], _, l, l', _, hl, h => by simp only [mtTs, Option.some.injEq] at h; subst h; exact ⟨hl, by simp⟩
  | _ :: _, [], _, _, _, _, h => by simp [mtTs] at h
  | p :: ps, t :: ts, l, l', ht, hl, h => by
    simp only [mtTs] at h
    obtain ⟨l1, h1, h2⟩ := bnd_s h
    obtain ⟨q1, q2⟩ := mtT_rng hQ p t l l1 (ht t (by simp)) hl h1
    obtain ⟨q3, q4⟩ := mtTs_rng hQ ps ts l1 l' (fun t h => ht t (by simp [h])) q1 h2
    simp only [tnds]
    exact ⟨q3, by omega⟩
end
theorem lkp_app (v : List UInt8) (c : TBinding) : ∀ (l : List TBinding), lkp v (l ++ [c]) = cnd (lkp v l).2 (lkp v l) (lkp v [c])
  | [] => by simp [lkp, cnd_false]
  | b :: l => by
    have h := lkp_app v c l
    simp only [List.cons_append, lkp] at h ⊢
    cases b.var_ == v with
    | true => simp [cnd_true]
    | false => simpa [cnd_false] using h
theorem lkp_hit (v : List UInt8) (t : TType) : lkp v [⟨v, t⟩] = (t, true) := by simp [lkp, cnd_true]
theorem lkp_mis {v w : List UInt8} (t : TType) (h : w ≠ v) : (lkp v [⟨w, t⟩]).2 = false := by simp [lkp, beq_false_of_ne h, cnd_false]
/-- l' tells what l tells. -/
def Ext (l l' : List TBinding) : Prop := ∀ v, (lkp v l).2 = true → lkp v l' = lkp v l
mutual
theorem ap_ext {l l' : List TBinding} (h : Ext l l') : ∀ (p : TType), tna p → (∀ v ∈ tvs p, (lkp v l).2 = true) → apT l' p = apT l p
  | ⟨k, n, ps⟩, hp, hv => by
    simp only [tna] at hp
    by_cases hk : k = 1
    · subst hk
      have h1 := hv n (by simp [tvs])
      rw [apT_var1 l n ps h1, apT_var1 l' n ps (by rw [h n h1]; exact h1), h n h1]
    · rw [apT_con _ _ _ _ hk, apT_con _ _ _ _ hk, aps_ext h ps hp.2 (fun v hv' => hv v (by simp [tvs, hk, hv']))]
theorem aps_ext {l l' : List TBinding} (h : Ext l l') : ∀ (ps : List TType), tnas ps → (∀ v ∈ tvss ps, (lkp v l).2 = true) → apTs l' ps = apTs l ps
  | [], _, _ => rfl
  | p :: ps, hp, hv => by
    simp only [tnas] at hp
    simp only [apTs]
    rw [ap_ext h p hp.1 (fun v hv' => hv v (by simp [tvss, hv'])), aps_ext h ps hp.2 (fun v hv' => hv v (by simp [tvss, hv']))]
end
mutual
theorem mtT_sound : ∀ (p t : TType) (l l' : List TBinding), tna p → mtT p t l = some l' → Ext l l' ∧ (∀ v ∈ tvs p, (lkp v l').2 = true) ∧ apT l' p = t
  | ⟨k, n, ps⟩, t, l, l', hp, h => by
    simp only [tna] at hp
    simp only [mtT] at h
    by_cases hk : k = 1
    · subst hk
      have h0 := hp.1 rfl
      subst h0
      simp only [beq_self_eq_true, cnd_true] at h
      cases hb : (lkp n l).2 with
      | true =>
        simp only [hb, cnd_true] at h
        cases he : teq (lkp n l).1 t with
        | true =>
          simp only [he, cnd_true, Option.some.injEq] at h
          subst h
          have := (teq_iff _ _).1 he
          exact ⟨fun _ _ => rfl, fun v hv => by simp [tvs, tvss] at hv; subst hv; exact hb, by rw [apT_var1 _ _ _ hb, this]⟩
        | false => simp [he, cnd_false] at h
      | false =>
        simp only [hb, cnd_false, Option.some.injEq] at h
        subst h
        have hx : lkp n (l ++ [⟨n, t⟩]) = (t, true) := by rw [lkp_app, hb, cnd_false, lkp_hit]
        exact ⟨fun v hv => by rw [lkp_app, hv, cnd_true], fun v hv => by simp [tvs, tvss] at hv; subst hv; rw [hx], by rw [apT_var1 _ _ _ (by rw [hx]), hx]⟩
    · simp only [beq_false_of_ne hk, cnd_false] at h
      obtain ⟨k', n', ts⟩ := t
      cases hc : (cnd (k != k') true (cnd (!(n == n')) true ((ps.length : Int) != (ts.length : Int)))) with
      | true => simp [hc, cnd_true] at h
      | false =>
        simp only [hc, cnd_false] at h
        have f1 : k = k' := by
          cases h : (k != k') with
          | true => rw [h] at hc; simp [cnd_true] at hc
          | false => simpa using h
        have f2 : n = n' := by
          rw [show (k != k') = false by simp [f1]] at hc
          simp only [cnd_false] at hc
          cases h : (n == n') with
          | true => exact eq_of_beq h
          | false => rw [h] at hc; simp [cnd_true] at hc
        have f3 : ps.length = ts.length := by
          rw [show (k != k') = false by simp [f1], show (n == n') = true by simp [f2]] at hc
          simp only [cnd_false, Bool.not_true] at hc
          have : ((ps.length : Int)) = ts.length := by simpa using hc
          omega
        subst f1; subst f2
        obtain ⟨q1, q2, q3⟩ := mtTs_sound ps ts l l' hp.2 f3 h
        exact ⟨q1, fun v hv => q2 v (by simpa [tvs, hk] using hv), by rw [apT_con _ _ _ _ hk, q3]⟩
theorem mtTs_sound : ∀ (ps ts : List TType) (l l' : List TBinding), tnas ps → ps.length = ts.length → mtTs ps ts l = some l' → Ext l l' ∧ (∀ v ∈ tvss ps, (lkp v l').2 = true) ∧ apTs l' ps = ts
  | [], ts, l, l', _, hlen, h => by
    simp only [mtTs, Option.some.injEq] at h
    subst h
    have : ts = [] := List.length_eq_zero_iff.1 (by simpa using hlen.symm)
    subst this
    exact ⟨fun _ _ => rfl, fun v hv => by simp [tvss] at hv, rfl⟩
  | _ :: _, [], _, _, _, _, h => by simp [mtTs] at h
  | p :: ps, t :: ts, l, l', hp, hlen, h => by
    simp only [tnas] at hp
    simp only [mtTs] at h
    obtain ⟨l1, h1, h2⟩ := bnd_s h
    obtain ⟨q1, q2, q3⟩ := mtT_sound p t l l1 hp.1 h1
    obtain ⟨q4, q5, q6⟩ := mtTs_sound ps ts l1 l' hp.2 (by simpa using hlen) h2
    refine ⟨fun v hv => ?_, fun v hv => ?_, ?_⟩
    · rw [q4 v (by rw [q1 v hv]; exact hv), q1 v hv]
    · simp only [tvss, List.mem_append] at hv
      rcases hv with hv | hv
      · rw [q4 v (q2 v hv)]; exact q2 v hv
      · exact q5 v hv
    · simp only [apTs]
      rw [q6, ap_ext q4 p hp.1 q2, q3]
end
theorem rtok : ∀ x, tok x → ∀ y ∈ x.args, tok y := fun x hx y hy => by
  obtain ⟨k, n, ts⟩ := x
  simp only [tok] at hx
  exact tall_iff.1 hx.2 y hy
/-! ### matching: the program -/
theorem iMatch_row {n : Nat} (ih : ∀ (p t : TType) (l : List TBinding), 2 * tnd p ≤ n → bok l → tok t → l.length + tnd p ≤ 4000000 → ∃ q, m_iMatch n l p t = some q ∧ Agr (mtT p t l) q) (all : List TType) (hall : ∀ t ∈ all, tok t) :
    ∀ (xs : List TType) (k : Nat) (l : List TBinding), 2 * tnds xs ≤ n → bok l → all.length = k + xs.length → l.length + tnds xs ≤ 4000000 → ∃ q, b_iMatchAll_l1 (m_iMatch n) all xs k l = some q ∧ Agr (mtTs xs (all.drop k) l) q
  | [], k, l, _, _, h, _ => ⟨_, rfl, rfl⟩
  | x :: xs, k, l, hn, hb, h, hl => by
    simp only [List.length_cons] at h
    simp only [tnds] at hn hl
    have hk : k < all.length := by omega
    have hx : all[k]? = some all[k] := List.getElem?_eq_getElem hk
    obtain ⟨q, e1, e2⟩ := ih x all[k] l (by omega) hb (hall _ (List.getElem_mem hk)) (by omega)
    rw [b_iMatchAll_l1.eq_2, at_nat, hx, List.drop_eq_getElem_cons hk]
    simp only [bnd, e1, mtTs]
    cases hm : mtT x all[k] l with
    | none =>
      rw [hm] at e2
      have e3 : q.1 = false := e2
      simp only [e3, Bool.not_false, cnd_true]
      exact ⟨_, rfl, rfl⟩
    | some l1 =>
      rw [hm] at e2
      have e3 : q = (true, l1) := e2
      subst e3
      simp only [Bool.not_true, cnd_false]
      obtain ⟨r1, r2⟩ := mtT_rng rtok x all[k] l l1 (hall _ (List.getElem_mem hk)) hb hm
      exact iMatch_row ih all hall xs (k + 1) l1 (by omega) r1 (by omega) (by omega)
theorem iMatch_eq : ∀ (n : Nat), (∀ (p t : TType) (l : List TBinding), 2 * tnd p ≤ n → bok l → tok t → l.length + tnd p ≤ 4000000 → ∃ q, m_iMatch n l p t = some q ∧ Agr (mtT p t l) q) ∧
    (∀ (ps ts : List TType) (l : List TBinding), 2 * tnds ps + 1 ≤ n → bok l → (∀ t ∈ ts, tok t) → l.length + tnds ps ≤ 4000000 → ∃ q, m_iMatchAll n l ps ts = some q ∧ Agr (cnd ((ps.length : Int) != (ts.length : Int)) none (mtTs ps ts l)) q)
  | 0 => ⟨fun p t l h => by have := tnd_pos p; omega, fun ps ts l h => by omega⟩
  | n + 1 => by
    obtain ⟨ih1, ih2⟩ := iMatch_eq n
    refine ⟨fun p t l hn hb ht hl => ?_, fun ps ts l hn hb ht hl => ?_⟩
    · obtain ⟨k, nm, ps⟩ := p
      simp only [tnd] at hn hl
      rw [m_iMatch.eq_2]
      unfold b_iMatch
      simp only [lt_, idT, mtT]
      cases hk : (k == 1) with
      | true =>
        simp only [cnd_true]
        have hlk : b_iLookup l nm = some (lkp nm l) := iLookup_l1_eq nm l hb
        rw [bnd_eq hlk]
        cases (lkp nm l).2 with
        | true =>
          simp only [cnd_true]
          refine ⟨_, rfl, ?_⟩
          cases teq (lkp nm l).1 t <;> rfl
        | false =>
          simp only [cnd_false]
          rw [gd_eq ht, gd_eq (by simp; omega)]
          exact ⟨_, rfl, rfl⟩
      | false =>
        simp only [cnd_false]
        obtain ⟨q, e1, e2⟩ := ih2 ps t.args l (by omega) hb (rtok t ht) (by omega)
        cases h1 : (k != t.kind) with
        | true => simp only [cnd_true]; exact ⟨_, rfl, rfl⟩
        | false =>
          simp only [cnd_false]
          cases h2 : (!(nm == t.name)) with
          | true => simp only [cnd_true]; exact ⟨_, rfl, rfl⟩
          | false =>
            simp only [cnd_false]
            rw [bnd_eq e1]
            exact ⟨_, rfl, e2⟩
    · rw [m_iMatchAll.eq_2]
      unfold b_iMatchAll
      cases h1 : ((ps.length : Int) != (ts.length : Int)) with
      | true => simp only [cnd_true]; exact ⟨_, rfl, rfl⟩
      | false =>
        simp only [cnd_false]
        have hlen : ts.length = 0 + ps.length := by
          have : ((ps.length : Int)) = ts.length := by simpa using h1
          omega
        have := iMatch_row ih1 ts ht ps 0 l (by omega) hb hlen (by omega)
        rwa [List.drop_zero] at this
theorem iMatchF_eq (p t : TType) (hp : tnd p ≤ 40000) (ht : tok t) : ∃ q, b_iMatchF p t = some (q.2, q.1) ∧ Agr (mtT p t []) q := by
  obtain ⟨q, e1, e2⟩ := (iMatch_eq 100000).2 [p] [t] [] (by simp only [tnds]; omega) (fun b hb => by simp at hb) (by simpa using ht) (by simp [tnds]; omega)
  refine ⟨q, ?_, ?_⟩
  · unfold b_iMatchF iMatchAllNil
    rw [e1]
    rfl
  · have h0 : ((([p] : List TType).length : Int) != (([t] : List TType).length : Int)) = false := by simp
    rw [h0, cnd_false] at e2
    simp only [mtTs] at e2
    cases hm : mtT p t [] with
    | none => rw [hm] at e2; exact e2
    | some l => rw [hm] at e2; exact e2
theorem Agr.fst {r : Option (List TBinding)} {q : Bool × List TBinding} (h : Agr r q) : q.1 = r.isSome := by
  cases r with
  | none => exact h
  | some l =>
    have h : q = (true, l) := h
    rw [h]; rfl
theorem iMatches_eq (p t : TType) (hp : tnd p ≤ 40000) (ht : tok t) : b_iMatches p t = some (mtT p t []).isSome := by
  obtain ⟨q, e1, e2⟩ := iMatchF_eq p t hp ht
  unfold b_iMatches
  rw [bnd_eq e1, ← e2.fst]
end Go.Proofs.Ytiaghdodeinecaa
