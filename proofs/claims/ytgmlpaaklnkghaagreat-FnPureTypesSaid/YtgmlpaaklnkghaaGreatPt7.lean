/- Pt7. Written by a program of mine (aw.py). -/
import Derived.Test.YtgmlpaaklnkghaaGreatEng39
import Derived.Test.YtgmlpaaklnkghaaGreatPt6
set_option linter.unusedVariables false
set_option linter.unusedSimpArgs false
set_option linter.unusedSectionVars false
namespace Go.Proofs.YtgmlpaaklnkghaaGreat
open Go Go.Eng
attribute [local irreducible] V VO VQ VY Quiet QR SpecP SpecO Rng PostP PostO PostG
def unifyO (a b : List TType) : Option (List TBinding × Bool) := (m_iUnify 50000 [] a b).map fun r => (r.2, r.1)
theorem t_unifyO (a b : List TType) {r : List TBinding × Bool} (h : unifyO a b = some r) : Go.Eng.Spec Tryz.prog 53 [.nilsl, .d (.sl 3 (eTypes a)), .d (.sl 3 (eTypes b))] [] (fun sv Lo => sv = .tup [.sl 0 0, .d (.b r.2)] ∧ Lo = [.own 37 4 0 (eBindings r.1)]) := by
  unfold unifyO at h
  cases hm : m_iUnify 50000 [] a b with
  | none => rw [hm] at h; cases h
  | some p =>
    rw [hm] at h
    simp only [Option.map_some, Option.some.injEq] at h
    subst h
    exact Spec.nilO (s_iUnify 50000 [] a b 0 hm)
def b_iUnifyAll (a : List TType) (b : List TType) : Option (List TBinding × Bool) :=
(cnd ((a.length : Int) != (b.length : Int)) (
(some ([], false))) (
bnd (unifyO a b) fun x2 =>
(some (x2.1, x2.2))))
set_option maxHeartbeats 4000000 in
theorem w_iUnifyAll (a : List TType) (b : List TType) {r : List TBinding × Bool} (h : b_iUnifyAll a b = some r) : Go.Eng.Spec Tryz.prog 24 [.d (.sl 3 (eTypes a)), .d (.sl 3 (eTypes b))] [] (fun sv Lo => sv = .tup [.sl 0 0, .d (.b r.2)] ∧ Lo = [.own 37 4 0 (eBindings r.1)]) := by
  unfold b_iUnifyAll at h
  refine Spec_intro 0 Tryz.func24 rfl (by kernel_rfl) rfl rfl fun A _ => ?_
  refine goL ?_
  refine V_cb (fun c1 => ?_) (fun c1 => ?_)
  · replace h := cnd_t c1 h
    refine goL ?_
    refine V_adT 37 4 4 ?_
    refine V_ret ?_
    replace h := Option.some.inj h
    subst h
    exact R_rH [.sl 0 0, .d (.b false)] [.own 37 4 0 []] ⟨rfl, rfl⟩
  · replace h := cnd_f c1 h
    refine V_skip ?_
    show V _ _ _ _ _
    refine goL ?_
    obtain ⟨x2, hx2, h⟩ := bnd_s h
    obtain ⟨x2_0, x2_1⟩ := x2
    refine VO_cG [] (t_unifyO a b hx2) ?_
    rintro _ _ ⟨rfl, rfl⟩
    show VO _ _ _ _ ⟨(_, .tup [.sl 0 0, .d (.b x2_1)]) :: _, [.own 37 4 0 (eBindings x2_0)], _⟩ _
    refine goL ?_
    refine V_ret ?_
    replace h := Option.some.inj h
    subst h
    exact R_rH [.sl 0 0, .d (.b x2_1)] [.own 37 4 0 (eBindings x2_0)] ⟨rfl, rfl⟩
def b_iUnifyF (a : TType) (b : TType) : Option (List TBinding × Bool) :=
bnd (b_iUnifyAll [a] [b]) fun x1 =>
(some (x1.1, x1.2))
set_option maxHeartbeats 4000000 in
theorem w_iUnifyF (a : TType) (b : TType) {r : List TBinding × Bool} (h : b_iUnifyF a b = some r) : Go.Eng.Spec Tryz.prog 9 [.d (eType a), .d (eType b)] [] (fun sv Lo => sv = .tup [.sl 0 0, .d (.b r.2)] ∧ Lo = [.own 37 4 0 (eBindings r.1)]) := by
  obtain ⟨a_0, a_1, a_2⟩ := a
  obtain ⟨b_0, b_1, b_2⟩ := b
  unfold b_iUnifyF at h
  refine Spec_intro 0 Tryz.func9 rfl (by kernel_rfl) rfl rfl fun A _ => ?_
  refine goL ?_
  refine VO_la1 (u := (.st [.i .i64 a_0, .s a_1, .sl 3 (eTypes a_2)])) ?_
  refine goL ?_
  refine VO_la1 (u := (.st [.i .i64 b_0, .s b_1, .sl 3 (eTypes b_2)])) ?_
  refine VO_freeze 2 rfl rfl ?_
  refine VO_freeze 3 rfl rfl ?_
  obtain ⟨x1, hx1, h⟩ := bnd_s h
  obtain ⟨x1_0, x1_1⟩ := x1
  refine VO_cG [] (w_iUnifyAll [(TType.mk a_0 a_1 a_2)] [(TType.mk b_0 b_1 b_2)] hx1) ?_
  rintro _ _ ⟨rfl, rfl⟩
  show VO _ _ _ _ ⟨(_, .tup [.sl 4 0, .d (.b x1_1)]) :: _, [.box [.d (.i .i64 a_0), .d (.s a_1), .d (.sl 3 (eTypes a_2))], .box [.d (.i .i64 b_0), .d (.s b_1), .d (.sl 3 (eTypes b_2))], .frz 27 3 0 (eTypes [(TType.mk a_0 a_1 a_2)]), .frz 27 3 0 (eTypes [(TType.mk b_0 b_1 b_2)]), .own 37 4 0 (eBindings x1_0)], _⟩ _
  refine goL ?_
  refine V_pk (fr' := [(4, .sl 0 0), (5, .d (.b x1_1))]) (Lc := [.own 37 4 0 (eBindings x1_0)]) 0 [4] ?_
  refine V_ret ?_
  replace h := Option.some.inj h
  subst h
  exact R_rH [.sl 0 0, .d (.b x1_1)] [.own 37 4 0 (eBindings x1_0)] ⟨rfl, rfl⟩
end Go.Proofs.YtgmlpaaklnkghaaGreat
