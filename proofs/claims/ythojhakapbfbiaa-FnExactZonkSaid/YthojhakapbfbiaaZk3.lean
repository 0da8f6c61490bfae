/- Zk3. Written by a program of mine (aw.py). -/
import Derived.Test.YthojhakapbfbiaaFacts
import Derived.Test.YthojhakapbfbiaaZk2
set_option linter.unusedVariables false
set_option linter.unusedSimpArgs false
set_option linter.unusedSectionVars false
namespace Go.Proofs.Ythojhakapbfbiaa
open Go Go.Eng
attribute [local irreducible] V VO VQ VY Quiet QR SpecP SpecO MSpec Rng PostP PostO PostG
def b_IndexFuncB_l1 (a1 : TBinding → Option Bool) : List TBinding → Nat → Option (Int)
  | [], y1 => (some (-1))
  | x4 :: xs, y1 => bnd (a1 x4) fun x5 =>
(cnd x5 (
(some (y1 : Int))) (
b_IndexFuncB_l1 a1 xs (y1 + 1)))
def b_IndexFuncB (a0 : List TBinding) (a1 : TBinding → Option Bool) : Option (Int) :=
b_IndexFuncB_l1 a1 a0 0
set_option maxHeartbeats 4000000 in
theorem w_IndexFuncB (a0 : List TBinding) {a1f : Nat} {a1c : List SV} {a1 : TBinding → Option Bool} (a1_lt : ∀ n, SV.lts n a1c = true) (ha1 : ∀ (x0 : TBinding) (r : Bool), a1 x0 = some r → SpecP Try.prog a1f ([.d (eBinding x0)] ++ a1c) [.b r]) {r : Int} (h : b_IndexFuncB a0 a1 = some r) : SpecP Try.prog 106 [.d (.sl 4 (eBindings a0)), .fn a1f a1c] [.i .i64 r] := by
  unfold b_IndexFuncB at h
  refine SpecP_intro Try.func106 rfl (by kernel_rfl) rfl fun A _ => ?_
  refine goL ?_
  refine V_block ?_
  show V _ _ _ _ _
  refine V_bd 0 (fun z2 => ?_)
  refine V_loop1 (fun (y1 : Nat) => ⟨[(0, .d (.sl 4 (eBindings a0))), (1, .fn a1f a1c), (7, .d (.i .i64 (a0.length : Int))), (8, .d (.i .i64 (y1 : Int)))], [], Try.f106.ntmps⟩) (fun y1 => b_IndexFuncB_l1 a1 (a0.drop y1) y1 = some r) (fun y1 => a0.length - y1) 0 ⟨rfl, ⟨⟨rfl, rfl⟩, ⟨rfl, a1_lt _⟩, ⟨rfl, rfl⟩, ⟨rfl, rfl⟩, trivial⟩, ⟨[], rfl⟩, rfl⟩ h ?_
  rintro y1 h
  refine goL ?_
  refine V_seq (V_cb (fun c3 => ?_) (fun c3 => ?_))
  · have hky12 := kltN c3
    obtain ⟨x4, hx4, hdx4⟩ := drop_at hky12
    rw [hdx4, b_IndexFuncB_l1.eq_2] at h
    obtain ⟨x4_0, ⟨x4_1_0, x4_1_1, x4_1_2⟩⟩ := x4
    refine V_skip ?_
    show V _ _ _ _ _
    refine V_seq (V_block ?_)
    refine goL ?_
    refine VO_r (QR_ixn y1 (gBinding hx4)) ?_
    refine goL ?_
    obtain ⟨x5, hx5, h⟩ := bnd_s h
    refine VO_r (QR_callf (ha1 _ _ hx5) (a1_lt 0)) ?_
    refine goL ?_
    refine V_cb (fun c6 => ?_) (fun c6 => ?_)
    · replace h := cnd_t c6 h
      refine goL ?_
      refine V_ret ?_
      replace h := Option.some.inj h
      subst h
      exact R_rP
    · replace h := cnd_f c6 h
      refine V_skip ?_
      show V _ _ _ _ _
      refine goL ?_
      refine VO_r (QR_inc y1 (by omega)) ?_
      refine goL ?_
      exact ⟨(y1 + 1), h, by omega, ⟨rfl, ⟨⟨rfl, rfl⟩, ⟨rfl, a1_lt _⟩, ⟨rfl, rfl⟩, ⟨rfl, rfl⟩, trivial⟩, ⟨_, rfl⟩, rfl⟩⟩
  · have hky12 := kgeN c3
    rw [drop_end hky12, b_IndexFuncB_l1.eq_1] at h
    refine V_exit ?_
    show V _ _ _ _ _
    refine goL ?_
    refine V_ret ?_
    replace h := Option.some.inj h
    subst h
    exact R_rP
def b_ContainsFuncB (a0 : List TBinding) (a1 : TBinding → Option Bool) : Option (Bool) :=
bnd (b_IndexFuncB a0 a1) fun x1 =>
(some (decide (x1 ≥ 0)))
set_option maxHeartbeats 4000000 in
theorem w_ContainsFuncB (a0 : List TBinding) {a1f : Nat} {a1c : List SV} {a1 : TBinding → Option Bool} (a1_lt : ∀ n, SV.lts n a1c = true) (ha1 : ∀ (x0 : TBinding) (r : Bool), a1 x0 = some r → SpecP Try.prog a1f ([.d (eBinding x0)] ++ a1c) [.b r]) {r : Bool} (h : b_ContainsFuncB a0 a1 = some r) : SpecP Try.prog 82 [.d (.sl 4 (eBindings a0)), .fn a1f a1c] [.b r] := by
  unfold b_ContainsFuncB at h
  refine SpecP_intro Try.func82 rfl (by kernel_rfl) rfl fun A _ => ?_
  refine goL ?_
  obtain ⟨x1, hx1, h⟩ := bnd_s h
  refine VO_r (QR_call (w_IndexFuncB a0 (a1 := a1) a1_lt ha1 hx1)) ?_
  refine goL ?_
  refine V_ret ?_
  replace h := Option.some.inj h
  subst h
  exact R_rP
def b_zonk11 (a0 : TBinding) (a1 : List UInt8) : Bool :=
(a0.var_ == a1)
set_option maxHeartbeats 4000000 in
theorem w_zonk11 (a0 : TBinding) (a1 : List UInt8) : SpecP Try.prog 83 [.d (eBinding a0), .dp (.s a1)] [.b (b_zonk11 a0 a1)] := by
  obtain ⟨r, h⟩ : ∃ r, b_zonk11 a0 a1 = r := ⟨_, rfl⟩
  rw [h]
  obtain ⟨a0_0, ⟨a0_1_0, a0_1_1, a0_1_2⟩⟩ := a0
  unfold b_zonk11 at h
  refine SpecP_intro Try.func83 rfl (by kernel_rfl) rfl fun A _ => ?_
  refine goL ?_
  refine V_ret ?_
  subst h
  exact R_rP
def b_zonk1 (s : TInferState) (v : List UInt8) : Option (Bool) :=
bnd (b_isInference v) fun x1 =>
bnd ((cnd x1 (bnd (b_ContainsFuncB s.bindings (fun z0 => some (b_zonk11 z0 v))) fun x4 =>
(some x4)) ((some false)))) fun b2 =>
(some b2)
set_option maxHeartbeats 4000000 in
theorem w_zonk1 (s : TInferState) (v : List UInt8) {r : Bool} (h : b_zonk1 s v = some r) : Go.Eng.Spec Try.prog 80 [.d (.s v), .ptr 0 0] [.box [.ptr 1 0], .box [.d (.i .i64 s.next), .d (.i .i64 s.count), .d (.i .i64 s.node), .d (.sl 4 (eBindings s.bindings)), .d (.sl 7 (eEquations s.equations)), .d (.sl 5 (eObligations s.obligations)), .d (.i .i64 s.code), .d (.i .i64 s.at_)]] (fun sv Lo => sv = .d (.b r) ∧ Lo = [.box [.ptr 1 0], .box [.d (.i .i64 s.next), .d (.i .i64 s.count), .d (.i .i64 s.node), .d (.sl 4 (eBindings s.bindings)), .d (.sl 7 (eEquations s.equations)), .d (.sl 5 (eObligations s.obligations)), .d (.i .i64 s.code), .d (.i .i64 s.at_)]]) := by
  obtain ⟨s_0, s_1, s_2, s_3, s_4, s_5, s_6, s_7⟩ := s
  unfold b_zonk1 at h
  refine Spec_intro 2 Try.func80 rfl (by kernel_rfl) rfl rfl fun A _ => ?_
  refine goL ?_
  obtain ⟨x1, hx1, h⟩ := bnd_s h
  refine VO_r (QR_call (w_isInference v hx1)) ?_
  refine goL ?_
  obtain ⟨b2, hb2, h⟩ := bnd_s h
  refine VO_join ⟨[(3, .d (.b b2))], [.box [.ptr 1 0], .box [.d (.i .i64 s_0), .d (.i .i64 s_1), .d (.i .i64 s_2), .d (.sl 4 (eBindings s_3)), .d (.sl 7 (eEquations s_4)), .d (.sl 5 (eObligations s_5)), .d (.i .i64 s_6), .d (.i .i64 s_7)], .box [.d (.s v)]], Try.f80.ntmps⟩ ?_ ?_
  · refine VO_case 6 (fun c3 => ?_) (fun c3 => ?_)
    · replace hb2 := cnd_t c3 hb2
      refine goL ?_
      refine VO_b ?_
      refine VO_r (QR_nc) ?_
      refine goL ?_
      refine VO_b ?_
      refine VO_r (QR_fn) ?_
      refine VO_b ?_
      obtain ⟨x4, hx4, hb2⟩ := bnd_s hb2
      refine VO_k (Q_cc (w_ContainsFuncB s_3 (a1 := (fun z0 => some (b_zonk11 z0 v))) (fun _ => rfl) (fun z0 r hr => by cases hr; exact w_zonk11 z0 v) hx4)) ?_
      refine goL ?_
      cases hb2
      exact ⟨rfl, ⟨⟨rfl, rfl⟩, trivial⟩, ⟨[], rfl⟩, rfl⟩
    · replace hb2 := cnd_f c3 hb2
      refine goL ?_
      cases hb2
      exact ⟨rfl, ⟨⟨rfl, rfl⟩, trivial⟩, ⟨[], rfl⟩, rfl⟩
  refine goL ?_
  refine V_ret ?_
  replace h := Option.some.inj h
  subst h
  exact R_rH [.d (.b b2)] [.box [.ptr 1 0], .box [.d (.i .i64 s_0), .d (.i .i64 s_1), .d (.i .i64 s_2), .d (.sl 4 (eBindings s_3)), .d (.sl 7 (eEquations s_4)), .d (.sl 5 (eObligations s_5)), .d (.i .i64 s_6), .d (.i .i64 s_7)]] ⟨rfl, rfl⟩
def b_IndexZk_l1 (s : TInferState) : List (List UInt8) → Nat → Option (Int)
  | [], y1 => (some (-1))
  | x4 :: xs, y1 => bnd (b_zonk1 s x4) fun x5 =>
(cnd x5 (
(some (y1 : Int))) (
b_IndexZk_l1 s xs (y1 + 1)))
def b_IndexZk (s : TInferState) (l : List (List UInt8)) : Option (Int) :=
b_IndexZk_l1 s l 0
set_option maxHeartbeats 4000000 in
theorem w_IndexZk (s : TInferState) (l : List (List UInt8)) {r : Int} (h : b_IndexZk s l = some r) : Go.Eng.Spec Try.prog 103 [.d (.sl 1 (eStrs l)), .fn 80 [.ptr 0 0]] [.box [.ptr 1 0], .box [.d (.i .i64 s.next), .d (.i .i64 s.count), .d (.i .i64 s.node), .d (.sl 4 (eBindings s.bindings)), .d (.sl 7 (eEquations s.equations)), .d (.sl 5 (eObligations s.obligations)), .d (.i .i64 s.code), .d (.i .i64 s.at_)]] (fun sv Lo => sv = .d (.i .i64 r) ∧ Lo = [.box [.ptr 1 0], .box [.d (.i .i64 s.next), .d (.i .i64 s.count), .d (.i .i64 s.node), .d (.sl 4 (eBindings s.bindings)), .d (.sl 7 (eEquations s.equations)), .d (.sl 5 (eObligations s.obligations)), .d (.i .i64 s.code), .d (.i .i64 s.at_)]]) := by
  obtain ⟨s_0, s_1, s_2, s_3, s_4, s_5, s_6, s_7⟩ := s
  unfold b_IndexZk at h
  refine Spec_intro 2 Try.func103 rfl (by kernel_rfl) rfl rfl fun A _ => ?_
  refine goL ?_
  refine V_block ?_
  show V _ _ _ _ _
  refine V_bd 0 (fun z2 => ?_)
  refine V_loop1 (fun (y1 : Nat) => ⟨[(0, .d (.sl 1 (eStrs l))), (1, .fn 80 [.ptr 0 0]), (7, .d (.i .i64 (l.length : Int))), (8, .d (.i .i64 (y1 : Int)))], [.box [.ptr 1 0], .box [.d (.i .i64 s_0), .d (.i .i64 s_1), .d (.i .i64 s_2), .d (.sl 4 (eBindings s_3)), .d (.sl 7 (eEquations s_4)), .d (.sl 5 (eObligations s_5)), .d (.i .i64 s_6), .d (.i .i64 s_7)]], Try.f103.ntmps⟩) (fun y1 => b_IndexZk_l1 (TInferState.mk s_0 s_1 s_2 s_3 s_4 s_5 s_6 s_7) (l.drop y1) y1 = some r) (fun y1 => l.length - y1) 0 ⟨rfl, ⟨⟨rfl, rfl⟩, ⟨rfl, rfl⟩, ⟨rfl, rfl⟩, ⟨rfl, rfl⟩, trivial⟩, ⟨[], rfl⟩, rfl⟩ h ?_
  rintro y1 h
  refine goL ?_
  refine V_seq (V_cb (fun c3 => ?_) (fun c3 => ?_))
  · have hky12 := kltN c3
    obtain ⟨x4, hx4, hdx4⟩ := drop_at hky12
    rw [hdx4, b_IndexZk_l1.eq_2] at h
    refine V_skip ?_
    show V _ _ _ _ _
    refine V_seq (V_block ?_)
    refine goL ?_
    refine VO_r (QR_ixn y1 (gStr hx4)) ?_
    refine goL ?_
    obtain ⟨x5, hx5, h⟩ := bnd_s h
    refine VO_cG [0, 1] (w_zonk1 (TInferState.mk s_0 s_1 s_2 s_3 s_4 s_5 s_6 s_7) x4 hx5) ?_
    rintro _ _ ⟨rfl, rfl⟩
    show VO _ _ _ _ ⟨(_, .d (.b x5)) :: _, [.box [.ptr 1 0], .box [.d (.i .i64 s_0), .d (.i .i64 s_1), .d (.i .i64 s_2), .d (.sl 4 (eBindings s_3)), .d (.sl 7 (eEquations s_4)), .d (.sl 5 (eObligations s_5)), .d (.i .i64 s_6), .d (.i .i64 s_7)]], _⟩ _
    refine goL ?_
    refine V_cb (fun c6 => ?_) (fun c6 => ?_)
    · replace h := cnd_t c6 h
      refine goL ?_
      refine V_ret ?_
      replace h := Option.some.inj h
      subst h
      exact R_rH [.d (.i .i64 (y1 : Int))] [.box [.ptr 1 0], .box [.d (.i .i64 s_0), .d (.i .i64 s_1), .d (.i .i64 s_2), .d (.sl 4 (eBindings s_3)), .d (.sl 7 (eEquations s_4)), .d (.sl 5 (eObligations s_5)), .d (.i .i64 s_6), .d (.i .i64 s_7)]] ⟨rfl, rfl⟩
    · replace h := cnd_f c6 h
      refine V_skip ?_
      show V _ _ _ _ _
      refine goL ?_
      refine VO_r (QR_inc y1 (by omega)) ?_
      refine goL ?_
      exact ⟨(y1 + 1), h, by omega, ⟨rfl, ⟨⟨rfl, rfl⟩, ⟨rfl, rfl⟩, ⟨rfl, rfl⟩, ⟨rfl, rfl⟩, trivial⟩, ⟨_, rfl⟩, rfl⟩⟩
  · have hky12 := kgeN c3
    rw [drop_end hky12, b_IndexZk_l1.eq_1] at h
    refine V_exit ?_
    show V _ _ _ _ _
    refine goL ?_
    refine V_ret ?_
    replace h := Option.some.inj h
    subst h
    exact R_rH [.d (.i .i64 (-1))] [.box [.ptr 1 0], .box [.d (.i .i64 s_0), .d (.i .i64 s_1), .d (.i .i64 s_2), .d (.sl 4 (eBindings s_3)), .d (.sl 7 (eEquations s_4)), .d (.sl 5 (eObligations s_5)), .d (.i .i64 s_6), .d (.i .i64 s_7)]] ⟨rfl, rfl⟩
def b_ContainsZk (s : TInferState) (l : List (List UInt8)) : Option (Bool) :=
bnd (b_IndexZk s l) fun x1 =>
(some (decide (x1 ≥ 0)))
set_option maxHeartbeats 4000000 in
theorem w_ContainsZk (s : TInferState) (l : List (List UInt8)) {r : Bool} (h : b_ContainsZk s l = some r) : Go.Eng.Spec Try.prog 78 [.d (.sl 1 (eStrs l)), .fn 80 [.ptr 0 0]] [.box [.ptr 1 0], .box [.d (.i .i64 s.next), .d (.i .i64 s.count), .d (.i .i64 s.node), .d (.sl 4 (eBindings s.bindings)), .d (.sl 7 (eEquations s.equations)), .d (.sl 5 (eObligations s.obligations)), .d (.i .i64 s.code), .d (.i .i64 s.at_)]] (fun sv Lo => sv = .d (.b r) ∧ Lo = [.box [.ptr 1 0], .box [.d (.i .i64 s.next), .d (.i .i64 s.count), .d (.i .i64 s.node), .d (.sl 4 (eBindings s.bindings)), .d (.sl 7 (eEquations s.equations)), .d (.sl 5 (eObligations s.obligations)), .d (.i .i64 s.code), .d (.i .i64 s.at_)]]) := by
  obtain ⟨s_0, s_1, s_2, s_3, s_4, s_5, s_6, s_7⟩ := s
  unfold b_ContainsZk at h
  refine Spec_intro 2 Try.func78 rfl (by kernel_rfl) rfl rfl fun A _ => ?_
  refine goL ?_
  obtain ⟨x1, hx1, h⟩ := bnd_s h
  refine VO_cG [0, 1] (w_IndexZk (TInferState.mk s_0 s_1 s_2 s_3 s_4 s_5 s_6 s_7) l hx1) ?_
  rintro _ _ ⟨rfl, rfl⟩
  show VO _ _ _ _ ⟨(_, .d (.i .i64 x1)) :: _, [.box [.ptr 1 0], .box [.d (.i .i64 s_0), .d (.i .i64 s_1), .d (.i .i64 s_2), .d (.sl 4 (eBindings s_3)), .d (.sl 7 (eEquations s_4)), .d (.sl 5 (eObligations s_5)), .d (.i .i64 s_6), .d (.i .i64 s_7)]], _⟩ _
  refine goL ?_
  refine V_ret ?_
  replace h := Option.some.inj h
  subst h
  exact R_rH [.d (.b (decide (x1 ≥ 0)))] [.box [.ptr 1 0], .box [.d (.i .i64 s_0), .d (.i .i64 s_1), .d (.i .i64 s_2), .d (.sl 4 (eBindings s_3)), .d (.sl 7 (eEquations s_4)), .d (.sl 5 (eObligations s_5)), .d (.i .i64 s_6), .d (.i .i64 s_7)]] ⟨rfl, rfl⟩
def b_iZonk_l1 (s : TInferState) : Nat → Int → (List UInt8) → (List TType) → Option (TType)
  | 0, y3, y4, y5 => (some (TType.mk y3 y4 y5))
  | m9 + 1, y3, y4, y5 => bnd (b_TypeVariables (TType.mk y3 y4 y5)) fun x10 =>
bnd (b_ContainsZk s x10) fun x11 =>
lt_ ((cnd (!x11) (true) ((decide ((tsz (TType.mk y3 y4 y5)) ≥ 4000))))) fun b12 =>
(cnd b12 (
(some (TType.mk y3 y4 y5))) (
gd (bok s.bindings ∧ tok (TType.mk y3 y4 y5)) (lt_ (apT s.bindings (TType.mk y3 y4 y5)) fun x16 =>
b_iZonk_l1 s m9 x16.kind x16.name x16.args)))
def b_iZonk (s : TInferState) (t : TType) : Option (TType) :=
gd (tok t) (lt_ (idT t) fun x2 =>
b_iZonk_l1 s 60 x2.kind x2.name x2.args)
set_option maxHeartbeats 4000000 in
theorem w_iZonk (s : TInferState) (t : TType) {r : TType} (h : b_iZonk s t = some r) : Go.Eng.Spec Try.prog 37 [.ptr 0 0, .d (eType t)] [.box [.d (.i .i64 s.next), .d (.i .i64 s.count), .d (.i .i64 s.node), .d (.sl 4 (eBindings s.bindings)), .d (.sl 7 (eEquations s.equations)), .d (.sl 5 (eObligations s.obligations)), .d (.i .i64 s.code), .d (.i .i64 s.at_)]] (fun sv Lo => ∃ v'1, sv = .ag [.d (.i .i64 r.kind), .d (.s r.name), .sl 1 v'1] ∧ Lo = [.box [.d (.i .i64 s.next), .d (.i .i64 s.count), .d (.i .i64 s.node), .d (.sl 4 (eBindings s.bindings)), .d (.sl 7 (eEquations s.equations)), .d (.sl 5 (eObligations s.obligations)), .d (.i .i64 s.code), .d (.i .i64 s.at_)], .own 34 3 v'1 (eTypes r.args)]) := by
  obtain ⟨s_0, s_1, s_2, s_3, s_4, s_5, s_6, s_7⟩ := s
  obtain ⟨t_0, t_1, t_2⟩ := t
  unfold b_iZonk at h
  refine Spec_intro 1 Try.func37 rfl (by kernel_rfl) rfl rfl fun A _ => ?_
  refine goL ?_
  obtain ⟨g1, h⟩ := gd_s h
  obtain ⟨x2, hx2, h⟩ := lt_x h
  obtain ⟨x2_0, x2_1, x2_2⟩ := x2
  have sx2 := t_iCopyType (TType.mk t_0 t_1 t_2) g1
  rw [hx2] at sx2
  refine VO_co (sx2) ?_
  refine goL ?_
  refine V_block ?_
  show V _ _ _ _ _
  refine V_loopR5 (fun (y7 : Nat) (y3 : Int) (y4 : List UInt8) (y5 : List TType) (v6 : Nat) => ⟨[(2, .ptr 1 0), (4, .ptr 3 0), (5, .ptr 5 0), (9, .d (.i .i64 (y7 : Int)))], [.box [.d (.i .i64 s_0), .d (.i .i64 s_1), .d (.i .i64 s_2), .d (.sl 4 (eBindings s_3)), .d (.sl 7 (eEquations s_4)), .d (.sl 5 (eObligations s_5)), .d (.i .i64 s_6), .d (.i .i64 s_7)], .box [.ptr 0 0], .box [.d (.i .i64 t_0), .d (.s t_1), .d (.sl 3 (eTypes t_2))], .box [.d (.i .i64 0), .d (.s []), .nilsl], .own 34 3 v6 (eTypes y5), .box [.d (.i .i64 y3), .d (.s y4), .sl 4 v6]], Try.f37.ntmps⟩) (fun y7 y3 y4 y5 v6 => y7 ≤ 60 ∧ b_iZonk_l1 (TInferState.mk s_0 s_1 s_2 s_3 s_4 s_5 s_6 s_7) (60 - y7) y3 y4 y5 = some r) (fun y7 y3 y4 y5 v6 => 60 - y7) 0 x2_0 x2_1 x2_2 0 ⟨rfl, ⟨⟨rfl, rfl⟩, ⟨rfl, rfl⟩, ⟨rfl, rfl⟩, ⟨rfl, rfl⟩, trivial⟩, ⟨[], rfl⟩, rfl⟩ ⟨by simp, h⟩ ?_
  rintro y7 y3 y4 y5 v6 ⟨hky7, h⟩
  refine goL ?_
  refine V_seq (V_cb (fun c8 => ?_) (fun c8 => ?_))
  · have hky72 : y7 < 60 := by have := of_decide_eq_true c8; omega
    obtain ⟨m9, hm9⟩ : ∃ m, 60 - y7 = m + 1 := ⟨60 - y7 - 1, by omega⟩
    rw [hm9, b_iZonk_l1.eq_2] at h
    refine V_skip ?_
    show V _ _ _ _ _
    refine V_seq (V_block ?_)
    refine goL ?_
    obtain ⟨x10, hx10, h⟩ := bnd_s h
    refine VO_co (w_TypeVariables (TType.mk y3 y4 y5) hx10) ?_
    refine VO_r (QR_fn) ?_
    refine VO_freezeO 6 rfl rfl ?_
    obtain ⟨x11, hx11, h⟩ := bnd_s h
    refine VO_cG [1, 0] (w_ContainsZk (TInferState.mk s_0 s_1 s_2 s_3 s_4 s_5 s_6 s_7) x10 hx11) ?_
    rintro _ _ ⟨rfl, rfl⟩
    show VO _ _ _ _ ⟨(_, .d (.b x11)) :: _, [.box [.d (.i .i64 s_0), .d (.i .i64 s_1), .d (.i .i64 s_2), .d (.sl 4 (eBindings s_3)), .d (.sl 7 (eEquations s_4)), .d (.sl 5 (eObligations s_5)), .d (.i .i64 s_6), .d (.i .i64 s_7)], .box [.ptr 0 0], .box [.d (.i .i64 t_0), .d (.s t_1), .d (.sl 3 (eTypes t_2))], .box [.d (.i .i64 0), .d (.s []), .nilsl], .own 34 3 v6 (eTypes y5), .box [.d (.i .i64 y3), .d (.s y4), .sl 4 v6], .frz 9 1 0 (eStrs x10)], _⟩ _
    refine goL ?_
    obtain ⟨b12, hb12, h⟩ := lt_x h
    refine VO_join ⟨[(2, .ptr 1 0), (4, .ptr 3 0), (5, .ptr 5 0), (9, .d (.i .i64 (y7 : Int))), (21, .d (.b b12))], [.box [.d (.i .i64 s_0), .d (.i .i64 s_1), .d (.i .i64 s_2), .d (.sl 4 (eBindings s_3)), .d (.sl 7 (eEquations s_4)), .d (.sl 5 (eObligations s_5)), .d (.i .i64 s_6), .d (.i .i64 s_7)], .box [.ptr 0 0], .box [.d (.i .i64 t_0), .d (.s t_1), .d (.sl 3 (eTypes t_2))], .box [.d (.i .i64 0), .d (.s []), .nilsl], .own 34 3 v6 (eTypes y5), .box [.d (.i .i64 y3), .d (.s y4), .sl 4 v6], .frz 9 1 0 (eStrs x10)], Try.f37.ntmps⟩ ?_ ?_
    · refine VO_case 17 (fun c13 => ?_) (fun c13 => ?_)
      · replace hb12 := cnd_t c13 hb12
        refine goL ?_
        cases hb12
        exact ⟨rfl, ⟨⟨rfl, rfl⟩, ⟨rfl, rfl⟩, ⟨rfl, rfl⟩, ⟨rfl, rfl⟩, ⟨rfl, rfl⟩, trivial⟩, ⟨[], rfl⟩, rfl⟩
      · replace hb12 := cnd_f c13 hb12
        refine goL ?_
        refine VO_b ?_
        refine VO_k (Q_cb (t_iTypeSize (TType.mk y3 y4 y5))) ?_
        refine goL ?_
        cases hb12
        exact ⟨rfl, ⟨⟨rfl, rfl⟩, ⟨rfl, rfl⟩, ⟨rfl, rfl⟩, ⟨rfl, rfl⟩, ⟨rfl, rfl⟩, trivial⟩, ⟨[], rfl⟩, rfl⟩
    refine goL ?_
    refine V_cb (fun c14 => ?_) (fun c14 => ?_)
    · replace h := cnd_t c14 h
      refine V_exit ?_
      show V _ _ _ _ _
      refine goL ?_
      refine V_pk (fr' := [(4, .ptr 2 0)]) (Lc := [.box [.d (.i .i64 s_0), .d (.i .i64 s_1), .d (.i .i64 s_2), .d (.sl 4 (eBindings s_3)), .d (.sl 7 (eEquations s_4)), .d (.sl 5 (eObligations s_5)), .d (.i .i64 s_6), .d (.i .i64 s_7)], .own 34 3 v6 (eTypes y5), .box [.d (.i .i64 y3), .d (.s y4), .sl 1 v6]]) 1 [0, 4, 3] ?_
      refine V_ret ?_
      replace h := Option.some.inj h
      subst h
      exact R_rH [.ag [.d (.i .i64 y3), .d (.s y4), .sl 1 v6]] [.box [.d (.i .i64 s_0), .d (.i .i64 s_1), .d (.i .i64 s_2), .d (.sl 4 (eBindings s_3)), .d (.sl 7 (eEquations s_4)), .d (.sl 5 (eObligations s_5)), .d (.i .i64 s_6), .d (.i .i64 s_7)], .own 34 3 v6 (eTypes y5)] ⟨v6, rfl, rfl⟩
    · replace h := cnd_f c14 h
      refine V_skip ?_
      show V _ _ _ _ _
      refine V_drawX (P := Try.prog) Mix.h [(0, true), (1, true), (2, true), (3, true), (4, true), (5, false), (6, false)] (by kernel_rfl) ?_
      refine goY ?_
      refine VY_ri rfl (QR_nc) ?_
      refine goY ?_
      obtain ⟨g15, h⟩ := gd_s h
      obtain ⟨x16, hx16, h⟩ := lt_x h
      obtain ⟨x16_0, x16_1, x16_2⟩ := x16
      have sx16 := t_iApply s_3 (TType.mk y3 y4 y5) g15
      rw [hx16] at sx16
      refine VY_co (sx16) ?_
      refine goY ?_
      refine VY_nil ?_
      refine goL ?_
      refine VO_r (QR_inc y7 (by omega)) ?_
      refine goL ?_
      rw [show m9 = 60 - (y7 + 1) by omega] at h
      exact ⟨(y7 + 1), x16_0, x16_1, x16_2, 0, ⟨by omega, h⟩, by omega, R_pk 1 [0, 1, 2, 3, 7, 5]⟩
  · have hky72 : 60 ≤ y7 := by have := of_decide_eq_false c8; omega
    rw [show 60 - y7 = 0 by omega, b_iZonk_l1.eq_1] at h
    refine V_exit ?_
    show V _ _ _ _ _
    refine goL ?_
    refine V_pk (fr' := [(4, .ptr 2 0)]) (Lc := [.box [.d (.i .i64 s_0), .d (.i .i64 s_1), .d (.i .i64 s_2), .d (.sl 4 (eBindings s_3)), .d (.sl 7 (eEquations s_4)), .d (.sl 5 (eObligations s_5)), .d (.i .i64 s_6), .d (.i .i64 s_7)], .own 34 3 v6 (eTypes y5), .box [.d (.i .i64 y3), .d (.s y4), .sl 1 v6]]) 1 [0, 4, 3] ?_
    refine V_ret ?_
    replace h := Option.some.inj h
    subst h
    exact R_rH [.ag [.d (.i .i64 y3), .d (.s y4), .sl 1 v6]] [.box [.d (.i .i64 s_0), .d (.i .i64 s_1), .d (.i .i64 s_2), .d (.sl 4 (eBindings s_3)), .d (.sl 7 (eEquations s_4)), .d (.sl 5 (eObligations s_5)), .d (.i .i64 s_6), .d (.i .i64 s_7)], .own 34 3 v6 (eTypes y5)] ⟨v6, rfl, rfl⟩
def b_iZonkF (a0 : TInferState) (a1 : TType) : Option (TType) :=
bnd (b_iZonk a0 a1) fun x1 =>
(some x1)
set_option maxHeartbeats 4000000 in
theorem w_iZonkF (a0 : TInferState) (a1 : TType) {r : TType} (h : b_iZonkF a0 a1 = some r) : SpecO Try.prog 10 [.d (eInferState a0), .d (eType a1)] [34] [eType r] := by
  obtain ⟨a0_0, a0_1, a0_2, a0_3, a0_4, a0_5, a0_6, a0_7⟩ := a0
  obtain ⟨a1_0, a1_1, a1_2⟩ := a1
  unfold b_iZonkF at h
  refine SpecO_intro Try.func10 rfl (by kernel_rfl) rfl (by simp) fun A _ => ?_
  refine goL ?_
  obtain ⟨x1, hx1, h⟩ := bnd_s h
  obtain ⟨x1_0, x1_1, x1_2⟩ := x1
  refine VO_cG [0] (w_iZonk (TInferState.mk a0_0 a0_1 a0_2 a0_3 a0_4 a0_5 a0_6 a0_7) (TType.mk a1_0 a1_1 a1_2) hx1) ?_
  rintro _ _ ⟨v2, rfl, rfl⟩
  show VO _ _ _ _ ⟨(_, .ag [.d (.i .i64 x1_0), .d (.s x1_1), .sl 3 v2]) :: _, [.box [.d (.i .i64 a0_0), .d (.i .i64 a0_1), .d (.i .i64 a0_2), .d (.sl 4 (eBindings a0_3)), .d (.sl 7 (eEquations a0_4)), .d (.sl 5 (eObligations a0_5)), .d (.i .i64 a0_6), .d (.i .i64 a0_7)], .box [.d (.i .i64 a1_0), .d (.s a1_1), .d (.sl 3 (eTypes a1_2))], .box [.d (.i .i64 0), .d (.s []), .nilsl], .own 34 3 v2 (eTypes x1_2)], _⟩ _
  refine goL ?_
  refine V_ret ?_
  replace h := Option.some.inj h
  subst h
  exact R_rO
def b_l32Bound_l1 (rec_l32Bound : (List TBinding) → TType → Option (Bool)) (a0 : List TBinding) : List TType → Option (Bool)
  | [] => (some false)
  | x8 :: xs => bnd (rec_l32Bound a0 x8) fun x9 =>
(cnd x9 (
(some true)) (
b_l32Bound_l1 rec_l32Bound a0 xs ))
def b_l32Bound_l2 (rec_l32Bound : (List TBinding) → TType → Option (Bool)) (a0 : List TBinding) : List TType → Option (Bool)
  | [] => (some false)
  | x14 :: xs => bnd (rec_l32Bound a0 x14) fun x15 =>
(cnd x15 (
(some true)) (
b_l32Bound_l2 rec_l32Bound a0 xs ))
def b_l32Bound (rec_l32Bound : (List TBinding) → TType → Option (Bool)) (a0 : List TBinding) (a1 : TType) : Option (Bool) :=
bnd (b_l32Meta a1) fun x1 =>
(cnd x1 (
bnd (b_sLookup a0 a1.name) fun x3 =>
(cnd x3.2 (
(some true)) (
b_l32Bound_l1 rec_l32Bound a0 a1.args ))) (
b_l32Bound_l2 rec_l32Bound a0 a1.args ))
set_option maxHeartbeats 4000000 in
theorem w_l32Bound {rec_l32Bound : (List TBinding) → TType → Option (Bool)} (hrec_l32Bound : ∀ (x0 : List TBinding) (x1 : TType) {r : Bool}, rec_l32Bound x0 x1 = some r → SpecP Try.prog 31 [.d (.sl 4 (eBindings x0)), .d (eType x1)] [.b r]) (a0 : List TBinding) (a1 : TType) {r : Bool} (h : b_l32Bound rec_l32Bound a0 a1 = some r) : SpecP Try.prog 31 [.d (.sl 4 (eBindings a0)), .d (eType a1)] [.b r] := by
  obtain ⟨a1_0, a1_1, a1_2⟩ := a1
  unfold b_l32Bound at h
  refine SpecP_intro Try.func31 rfl (by kernel_rfl) rfl fun A _ => ?_
  refine goL ?_
  obtain ⟨x1, hx1, h⟩ := bnd_s h
  refine VO_r (QR_call (w_l32Meta (TType.mk a1_0 a1_1 a1_2) hx1)) ?_
  refine goL ?_
  refine V_cb (fun c2 => ?_) (fun c2 => ?_)
  · replace h := cnd_t c2 h
    refine goL ?_
    obtain ⟨x3, hx3, h⟩ := bnd_s h
    obtain ⟨⟨x3_0_0, x3_0_1, x3_0_2⟩, x3_1⟩ := x3
    refine VO_r (QR_call ((w_sLookup a0 a1_1 hx3).p)) ?_
    refine goL ?_
    refine V_cb (fun c4 => ?_) (fun c4 => ?_)
    · replace h := cnd_t c4 h
      refine goL ?_
      refine V_ret ?_
      replace h := Option.some.inj h
      subst h
      exact R_rP
    · replace h := cnd_f c4 h
      refine V_skip ?_
      show V _ _ _ _ _
      refine goL ?_
      refine V_block ?_
      show V _ _ _ _ _
      refine V_bdc 0 2 (fun z6 => ?_)
      refine V_loop1 (fun (y5 : Nat) => ⟨[(0, .d (.sl 4 (eBindings a0))), (3, .ptr 0 0), (7, .d (.i .i64 (y5 : Int)))], [.box [.d (.i .i64 a1_0), .d (.s a1_1), .d (.sl 3 (eTypes a1_2))], .box [.d (.i .i64 x3_0_0), .d (.s x3_0_1), .d (.sl 3 (eTypes x3_0_2))]], Try.f31.ntmps⟩) (fun y5 => b_l32Bound_l1 rec_l32Bound a0 (a1_2.drop y5)  = some r) (fun y5 => a1_2.length - y5) 0 ⟨rfl, ⟨⟨rfl, rfl⟩, ⟨rfl, rfl⟩, ⟨rfl, rfl⟩, trivial⟩, ⟨[], rfl⟩, rfl⟩ h ?_
      rintro y5 h
      refine goL ?_
      refine V_cb (fun c7 => ?_) (fun c7 => ?_)
      · have hky52 := kltN c7
        obtain ⟨x8, hx8, hdx8⟩ := drop_at hky52
        rw [hdx8, b_l32Bound_l1.eq_2] at h
        obtain ⟨x8_0, x8_1, x8_2⟩ := x8
        refine V_skip ?_
        show V _ _ _ _ _
        refine V_seq (V_block ?_)
        refine goL ?_
        refine VO_r (QR_ixn y5 (gType hx8)) ?_
        refine goL ?_
        obtain ⟨x9, hx9, h⟩ := bnd_s h
        refine VO_r (QR_call (hrec_l32Bound a0 (TType.mk x8_0 x8_1 x8_2) hx9)) ?_
        refine goL ?_
        refine V_cb (fun c10 => ?_) (fun c10 => ?_)
        · replace h := cnd_t c10 h
          refine goL ?_
          refine V_ret ?_
          replace h := Option.some.inj h
          subst h
          exact R_rP
        · replace h := cnd_f c10 h
          refine V_skip ?_
          show V _ _ _ _ _
          refine goL ?_
          refine VO_r (QR_inc y5 (by omega)) ?_
          refine goL ?_
          exact ⟨(y5 + 1), h, by omega, ⟨rfl, ⟨⟨rfl, rfl⟩, ⟨rfl, rfl⟩, ⟨rfl, rfl⟩, trivial⟩, ⟨_, rfl⟩, rfl⟩⟩
      · have hky52 := kgeN c7
        rw [drop_end hky52, b_l32Bound_l1.eq_1] at h
        refine V_exit ?_
        show V _ _ _ _ _
        refine goL ?_
        refine V_ret ?_
        replace h := Option.some.inj h
        subst h
        exact R_rP
  · replace h := cnd_f c2 h
    refine V_skip ?_
    show V _ _ _ _ _
    refine goL ?_
    refine V_block ?_
    show V _ _ _ _ _
    refine V_bdc 0 2 (fun z12 => ?_)
    refine V_loop1 (fun (y11 : Nat) => ⟨[(0, .d (.sl 4 (eBindings a0))), (3, .ptr 0 0), (7, .d (.i .i64 (y11 : Int)))], [.box [.d (.i .i64 a1_0), .d (.s a1_1), .d (.sl 3 (eTypes a1_2))]], Try.f31.ntmps⟩) (fun y11 => b_l32Bound_l2 rec_l32Bound a0 (a1_2.drop y11)  = some r) (fun y11 => a1_2.length - y11) 0 ⟨rfl, ⟨⟨rfl, rfl⟩, ⟨rfl, rfl⟩, ⟨rfl, rfl⟩, trivial⟩, ⟨[], rfl⟩, rfl⟩ h ?_
    rintro y11 h
    refine goL ?_
    refine V_cb (fun c13 => ?_) (fun c13 => ?_)
    · have hky112 := kltN c13
      obtain ⟨x14, hx14, hdx14⟩ := drop_at hky112
      rw [hdx14, b_l32Bound_l2.eq_2] at h
      obtain ⟨x14_0, x14_1, x14_2⟩ := x14
      refine V_skip ?_
      show V _ _ _ _ _
      refine V_seq (V_block ?_)
      refine goL ?_
      refine VO_r (QR_ixn y11 (gType hx14)) ?_
      refine goL ?_
      obtain ⟨x15, hx15, h⟩ := bnd_s h
      refine VO_r (QR_call (hrec_l32Bound a0 (TType.mk x14_0 x14_1 x14_2) hx15)) ?_
      refine goL ?_
      refine V_cb (fun c16 => ?_) (fun c16 => ?_)
      · replace h := cnd_t c16 h
        refine goL ?_
        refine V_ret ?_
        replace h := Option.some.inj h
        subst h
        exact R_rP
      · replace h := cnd_f c16 h
        refine V_skip ?_
        show V _ _ _ _ _
        refine goL ?_
        refine VO_r (QR_inc y11 (by omega)) ?_
        refine goL ?_
        exact ⟨(y11 + 1), h, by omega, ⟨rfl, ⟨⟨rfl, rfl⟩, ⟨rfl, rfl⟩, ⟨rfl, rfl⟩, trivial⟩, ⟨_, rfl⟩, rfl⟩⟩
    · have hky112 := kgeN c13
      rw [drop_end hky112, b_l32Bound_l2.eq_1] at h
      refine V_exit ?_
      show V _ _ _ _ _
      refine goL ?_
      refine V_ret ?_
      replace h := Option.some.inj h
      subst h
      exact R_rP
def m_l32Bound : Nat → (List TBinding) → TType → Option (Bool)
  | 0, _, _ => none
  | n + 1, x0, x1 => b_l32Bound (m_l32Bound n) x0 x1
theorem s_l32Bound : ∀ (n : Nat) (x0 : List TBinding) (x1 : TType) {r : Bool}, m_l32Bound n x0 x1 = some r → SpecP Try.prog 31 [.d (.sl 4 (eBindings x0)), .d (eType x1)] [.b r] := by
  intro n
  induction n with
  | zero => intro x0 x1 r h; cases h
  | succ n ih => intro x0 x1 r h; exact w_l32Bound ih x0 x1 h
/-! ### what is bound, by hand -/
mutual
/-- Is p true of a variable in it? -/
def anyv (p : List UInt8 → Bool) : TType → Bool
  | ⟨k, n, ts⟩ => ((k == 1) && p n) || anyvs p ts
def anyvs (p : List UInt8 → Bool) : List TType → Bool
  | [] => false
  | a :: ts => anyv p a || anyvs p ts
end
theorem addVar_any (p : List UInt8 → Bool) (k : Int) (n : List UInt8) (l : List (List UInt8)) : (addVar k n l).any p = (l.any p || ((k == 1) && p n)) := by
  unfold addVar
  by_cases hk : k = 1
  · by_cases hn : n ∈ l
    · simp only [hn, not_true_eq_false, and_false, if_false, hk, beq_self_eq_true, Bool.true_and]
      cases h : p n with
      | false => simp
      | true => simp only [Bool.or_true]; exact List.any_eq_true.2 ⟨n, hn, h⟩
    · simp [hn, hk]
  · simp [hk]
mutual
theorem varsT_any (p : List UInt8 → Bool) : ∀ (t : TType) (l : List (List UInt8)), (varsT t l).any p = (l.any p || anyv p t)
  | ⟨k, n, ts⟩, l => by
    simp only [varsT, anyv]
    rw [varsTs_any p ts, addVar_any, Bool.or_assoc]
theorem varsTs_any (p : List UInt8 → Bool) : ∀ (ts : List TType) (l : List (List UInt8)), (varsTs ts l).any p = (l.any p || anyvs p ts)
  | [], l => by simp [varsTs, anyvs]
  | a :: ts, l => by
    simp only [varsTs, anyvs]
    rw [varsTs_any p ts, varsT_any p a, Bool.or_assoc]
end
def hasB (l : List TBinding) (s : List UInt8) : Bool := l.any fun b => b.var_ == s
theorem lkp_has (v : List UInt8) : ∀ (l : List TBinding), (lkp v l).2 = hasB l v
  | [] => rfl
  | b :: l => by
    simp only [lkp, hasB, List.any_cons]
    cases hb : b.var_ == v with
    | true => rfl
    | false =>
      simp only [cnd_false, Bool.false_or]
      exact lkp_has v l
def zp (l : List TBinding) (s : List UInt8) : Bool := isInf s && hasB l s
def zbd (l : List TBinding) (t : TType) : Bool := anyv (zp l) t
theorem l32Bound_l1_eq {rec : List TBinding → TType → Option Bool} {l : List TBinding} : ∀ (xs : List TType), (∀ x ∈ xs, rec l x = some (zbd l x)) → b_l32Bound_l1 rec l xs = some (anyvs (zp l) xs)
  | [], _ => rfl
  | x :: xs, h => by
    simp only [b_l32Bound_l1, h x (by simp), bnd, anyvs]
    rw [l32Bound_l1_eq xs (fun y hy => h y (by simp [hy]))]
    show cnd (anyv (zp l) x) _ _ = _
    cases anyv (zp l) x <;> rfl
theorem l32Bound_l2_eq {rec : List TBinding → TType → Option Bool} {l : List TBinding} : ∀ (xs : List TType), (∀ x ∈ xs, rec l x = some (zbd l x)) → b_l32Bound_l2 rec l xs = some (anyvs (zp l) xs)
  | [], _ => rfl
  | x :: xs, h => by
    simp only [b_l32Bound_l2, h x (by simp), bnd, anyvs]
    rw [l32Bound_l2_eq xs (fun y hy => h y (by simp [hy]))]
    show cnd (anyv (zp l) x) _ _ = _
    cases anyv (zp l) x <;> rfl
theorem l32Bound_eq : ∀ (n : Nat) (l : List TBinding) (t : TType), bok l → tnd t ≤ n → m_l32Bound n l t = some (zbd l t)
  | 0, l, ⟨k, nm, ts⟩, _, h => by simp only [tnd] at h; omega
  | n + 1, l, ⟨k, nm, ts⟩, hl, h => by
    simp only [tnd] at h
    have ih : ∀ x ∈ ts, m_l32Bound n l x = some (zbd l x) := fun x hx => l32Bound_eq n l x hl (by have := tnd_mem hx; omega)
    simp only [m_l32Bound, b_l32Bound, l32Meta_eq, bnd, b_sLookup, sLookup_l1_eq nm l hl, l32Bound_l1_eq ts ih, l32Bound_l2_eq ts ih, lkp_has]
    unfold zbd
    simp only [anyv, zp]
    cases k == 1 <;> cases isInf nm <;> cases hasB l nm <;> rfl

theorem t_l32Bound (x0 : List TBinding) (x1 : TType) (h : bok x0) : SpecP Try.prog 31 [.d (.sl 4 (eBindings x0)), .d (eType x1)] [.b (zbd x0 x1)] := s_l32Bound (tnd x1) x0 x1 (l32Bound_eq _ _ _ h (Nat.le_refl _))
def b_sZonkF_l1 (a0 : TInferState) : Nat → Int → (List UInt8) → (List TType) → Int → Option (TType)
  | 0, y3, y4, y5, y6 => none
  | n7 + 1, y3, y4, y5, y6 => bnd ((cnd (decide (y6 < 60)) (gd (bok a0.bindings) ((cnd (zbd a0.bindings (TType.mk y3 y4 y5)) ((some (decide ((tsz (TType.mk y3 y4 y5)) < 4000)))) ((some false))))) ((some false)))) fun b8 =>
(cnd b8 (
gd (bok a0.bindings ∧ tok (TType.mk y3 y4 y5)) (lt_ (apT a0.bindings (TType.mk y3 y4 y5)) fun x14 =>
b_sZonkF_l1 a0 n7 x14.kind x14.name x14.args (IntKind.i64.wrap (y6 + 1)))) (
(some (TType.mk y3 y4 y5))))
def b_sZonkF (a0 : TInferState) (a1 : TType) (n0 : Nat) : Option (TType) :=
gd (tok a1) (lt_ (idT a1) fun x2 =>
b_sZonkF_l1 a0 n0 x2.kind x2.name x2.args 0)
set_option maxHeartbeats 4000000 in
theorem w_sZonkF (a0 : TInferState) (a1 : TType) {n0 : Nat} {r : TType} (h : b_sZonkF a0 a1 n0 = some r) : SpecP Try.prog 7 [.d (eInferState a0), .d (eType a1)] [eType r] := by
  obtain ⟨a0_0, a0_1, a0_2, a0_3, a0_4, a0_5, a0_6, a0_7⟩ := a0
  obtain ⟨a1_0, a1_1, a1_2⟩ := a1
  unfold b_sZonkF at h
  refine SpecP_intro Try.func7 rfl (by kernel_rfl) rfl fun A _ => ?_
  refine goL ?_
  obtain ⟨g1, h⟩ := gd_s h
  obtain ⟨x2, hx2, h⟩ := lt_x h
  obtain ⟨x2_0, x2_1, x2_2⟩ := x2
  have sx2 := (t_sCopyType (TType.mk a1_0 a1_1 a1_2) g1).p
  rw [hx2] at sx2
  refine VO_r (QR_call (sx2)) ?_
  refine goL ?_
  refine V_block ?_
  show V _ _ _ _ _
  refine V_loop5 (fun (n7 : Nat) (y3 : Int) (y4 : List UInt8) (y5 : List TType) (y6 : Int) => ⟨[(2, .ptr 0 0), (3, .ptr 1 0), (4, .ptr 2 0), (5, .d (.i .i64 y6))], [.box [.d (.i .i64 a0_0), .d (.i .i64 a0_1), .d (.i .i64 a0_2), .d (.sl 4 (eBindings a0_3)), .d (.sl 7 (eEquations a0_4)), .d (.sl 5 (eObligations a0_5)), .d (.i .i64 a0_6), .d (.i .i64 a0_7)], .box [.d (.i .i64 y3), .d (.s y4), .d (.sl 3 (eTypes y5))], .box [.d (.i .i64 0), .d (.s []), .nilsl]], Try.f7.ntmps⟩) (fun n7 y3 y4 y5 y6 => b_sZonkF_l1 (TInferState.mk a0_0 a0_1 a0_2 a0_3 a0_4 a0_5 a0_6 a0_7) n7 y3 y4 y5 y6 = some r) (fun n7 y3 y4 y5 y6 => n7) n0 x2_0 x2_1 x2_2 0 ⟨rfl, ⟨⟨rfl, rfl⟩, ⟨rfl, rfl⟩, ⟨rfl, rfl⟩, ⟨rfl, rfl⟩, trivial⟩, ⟨[], rfl⟩, rfl⟩ h ?_
  rintro n7 y3 y4 y5 y6 h
  rcases n7 with _ | n7
  · cases h
  rw [b_sZonkF_l1.eq_2] at h
  refine goL ?_
  obtain ⟨b8, hb8, h⟩ := bnd_s h
  refine VO_join ⟨[(2, .ptr 0 0), (3, .ptr 1 0), (4, .ptr 2 0), (5, .d (.i .i64 y6)), (20, .d (.b b8))], [.box [.d (.i .i64 a0_0), .d (.i .i64 a0_1), .d (.i .i64 a0_2), .d (.sl 4 (eBindings a0_3)), .d (.sl 7 (eEquations a0_4)), .d (.sl 5 (eObligations a0_5)), .d (.i .i64 a0_6), .d (.i .i64 a0_7)], .box [.d (.i .i64 y3), .d (.s y4), .d (.sl 3 (eTypes y5))], .box [.d (.i .i64 0), .d (.s []), .nilsl]], Try.f7.ntmps⟩ ?_ ?_
  · refine VO_case 10 (fun c9 => ?_) (fun c9 => ?_)
    · replace hb8 := cnd_t c9 hb8
      refine goL ?_
      refine VO_b ?_
      obtain ⟨g10, hb8⟩ := gd_s hb8
      refine VO_r (QR_call (t_l32Bound a0_3 (TType.mk y3 y4 y5) g10)) ?_
      refine goL ?_
      refine VO_case 16 (fun c11 => ?_) (fun c11 => ?_)
      · replace hb8 := cnd_t c11 hb8
        refine goL ?_
        refine VO_b ?_
        refine VO_r (QR_call (t_sTypeSize (TType.mk y3 y4 y5))) ?_
        refine goL ?_
        cases hb8
        exact ⟨rfl, ⟨⟨rfl, rfl⟩, ⟨rfl, rfl⟩, ⟨rfl, rfl⟩, ⟨rfl, rfl⟩, ⟨rfl, rfl⟩, trivial⟩, ⟨[], rfl⟩, rfl⟩
      · replace hb8 := cnd_f c11 hb8
        refine goL ?_
        cases hb8
        exact ⟨rfl, ⟨⟨rfl, rfl⟩, ⟨rfl, rfl⟩, ⟨rfl, rfl⟩, ⟨rfl, rfl⟩, ⟨rfl, rfl⟩, trivial⟩, ⟨[], rfl⟩, rfl⟩
    · replace hb8 := cnd_f c9 hb8
      refine goL ?_
      cases hb8
      exact ⟨rfl, ⟨⟨rfl, rfl⟩, ⟨rfl, rfl⟩, ⟨rfl, rfl⟩, ⟨rfl, rfl⟩, ⟨rfl, rfl⟩, trivial⟩, ⟨[], rfl⟩, rfl⟩
  refine goL ?_
  refine V_cb (fun c12 => ?_) (fun c12 => ?_)
  · replace h := cnd_t c12 h
    refine V_skip ?_
    show V _ _ _ _ _
    refine V_seq (V_block ?_)
    refine goL ?_
    obtain ⟨g13, h⟩ := gd_s h
    obtain ⟨x14, hx14, h⟩ := lt_x h
    obtain ⟨x14_0, x14_1, x14_2⟩ := x14
    have sx14 := (t_sApply a0_3 (TType.mk y3 y4 y5) g13).p
    rw [hx14] at sx14
    refine VO_r (QR_call (sx14)) ?_
    refine goL ?_
    refine VO_r (QR_ar) ?_
    refine goL ?_
    exact ⟨n7, x14_0, x14_1, x14_2, (IntKind.i64.wrap (y6 + 1)), h, Nat.lt_succ_self _, ⟨rfl, ⟨⟨rfl, rfl⟩, ⟨rfl, rfl⟩, ⟨rfl, rfl⟩, ⟨rfl, rfl⟩, trivial⟩, ⟨_, rfl⟩, rfl⟩⟩
  · replace h := cnd_f c12 h
    refine V_exit ?_
    show V _ _ _ _ _
    refine goL ?_
    refine V_ret ?_
    replace h := Option.some.inj h
    subst h
    exact R_rP
/-! ### Zonk, by hand -/
def zk (l : List TBinding) : Nat → TType → TType
  | 0, t => t
  | n + 1, t => cnd (zbd l t && decide (tsz t < 4000)) (zk l n (apT l t)) t
theorem IndexFuncB_l1_eq {p : TBinding → Option Bool} {q : TBinding → Bool} (hp : ∀ x, p x = some (q x)) : ∀ (l : List TBinding) (k : Nat), ∃ i, b_IndexFuncB_l1 p l k = some i ∧ (0 ≤ i ↔ l.any q = true)
  | [], k => ⟨-1, rfl, by simp⟩
  | x :: l, k => by
    obtain ⟨i, h1, h2⟩ := IndexFuncB_l1_eq hp l (k + 1)
    simp only [b_IndexFuncB_l1, hp, bnd]
    cases hq : q x with
    | true => exact ⟨k, by simp [cnd], by simp [hq]⟩
    | false => exact ⟨i, by simpa [cnd] using h1, by simpa [hq] using h2⟩
theorem ContainsFuncB_eq {p : TBinding → Option Bool} {q : TBinding → Bool} (hp : ∀ x, p x = some (q x)) (l : List TBinding) : b_ContainsFuncB l p = some (l.any q) := by
  obtain ⟨i, h1, h2⟩ := IndexFuncB_l1_eq hp l 0
  unfold b_ContainsFuncB b_IndexFuncB
  rw [h1]
  simp only [bnd, Option.some.injEq]
  cases h : l.any q with
  | true => exact decide_eq_true (h2.2 h)
  | false => exact decide_eq_false (fun hi => by rw [h2.1 hi] at h; cases h)
theorem zonk1_eq (s : TInferState) (v : List UInt8) : b_zonk1 s v = some (zp s.bindings v) := by
  unfold b_zonk1 zp
  rw [isInference_eq, ContainsFuncB_eq (q := fun b => b_zonk11 b v) (fun x => rfl)]
  simp only [bnd]
  show bnd (cnd (isInf v) (some (hasB s.bindings v)) (some false)) _ = _
  cases isInf v <;> rfl
theorem IndexZk_l1_eq (s : TInferState) : ∀ (l : List (List UInt8)) (k : Nat), ∃ i, b_IndexZk_l1 s l k = some i ∧ (0 ≤ i ↔ l.any (zp s.bindings) = true)
  | [], k => ⟨-1, rfl, by simp⟩
  | x :: l, k => by
    obtain ⟨i, h1, h2⟩ := IndexZk_l1_eq s l (k + 1)
    simp only [b_IndexZk_l1, zonk1_eq, bnd]
    cases hq : zp s.bindings x with
    | true => exact ⟨k, by simp [cnd], by simp [hq]⟩
    | false => exact ⟨i, by simpa [cnd] using h1, by simpa [hq] using h2⟩
theorem ContainsZk_eq (s : TInferState) (l : List (List UInt8)) : b_ContainsZk s l = some (l.any (zp s.bindings)) := by
  obtain ⟨i, h1, h2⟩ := IndexZk_l1_eq s l 0
  unfold b_ContainsZk b_IndexZk
  rw [h1]
  simp only [bnd, Option.some.injEq]
  cases h : l.any (zp s.bindings) with
  | true => exact decide_eq_true (h2.2 h)
  | false => exact decide_eq_false (fun hi => by rw [h2.1 hi] at h; cases h)
theorem TypeVariables_eq (t : TType) (h : tnd t ≤ 4294967296) : b_TypeVariables t = some (varsT t []) := by
  unfold b_TypeVariables b_variablesOf
  simp only [b_variablesOf_l1]
  rw [gd_eq (by simpa using h)]
  rfl
theorem ty_eta (t : TType) : TType.mk t.kind t.name t.args = t := by cases t; rfl
theorem iZonk_l1_eq (s : TInferState) {M : Nat} (hM : M ≤ 1048577) (h1 : bok s.bindings) (h2 : bnds M s.bindings) : ∀ (n : Nat) (t : TType), tok t → tnd t ≤ 4000 * M → b_iZonk_l1 s n t.kind t.name t.args = some (zk s.bindings n t)
  | 0, t, _, _ => by simp only [b_iZonk_l1, zk, ty_eta]
  | n + 1, t, h3, h4 => by
    have hz : tsz t = tnd t := tsz_small t (by omega)
    simp only [b_iZonk_l1, zk, ty_eta]
    rw [TypeVariables_eq t (by omega)]
    simp only [bnd, ContainsZk_eq, varsT_any, List.any_nil, Bool.false_or, lt_]
    show cnd (cnd (!zbd s.bindings t) true _) _ _ = _
    rw [gd_eq ⟨h1, h3⟩]
    cases hb : zbd s.bindings t with
    | false => rfl
    | true =>
      by_cases h5 : tnd t < 4000
      · have e1 : decide (tsz t ≥ 4000) = false := by rw [hz]; simp; omega
        have e2 : decide (tsz t < 4000) = true := by rw [hz]; simp; omega
        have := apT_tnd h2 t
        have h6 : M * tnd t ≤ M * 4000 := Nat.mul_le_mul_left M (by omega)
        simp only [e1, e2, Bool.not_true, cnd_false, Bool.and_self, cnd_true]
        exact iZonk_l1_eq s hM h1 h2 n _ (apT_tok h1 t h3) (by omega)
      · have e1 : decide (tsz t ≥ 4000) = true := by rw [hz]; simp; omega
        have e2 : decide (tsz t < 4000) = false := by rw [hz]; simp; omega
        simp only [e1, e2, Bool.not_true, cnd_false, Bool.and_false, cnd_true]
theorem sZonk_l1_eq (s : TInferState) (h1 : bok s.bindings) : ∀ (n k : Nat) (t : TType), k + n = 60 → tok t → b_sZonkF_l1 s (n + 1) t.kind t.name t.args (k : Int) = some (zk s.bindings n t)
  | 0, k, t, hk, _ => by
    obtain rfl : k = 60 := by omega
    simp only [b_sZonkF_l1, zk, ty_eta]
    rfl
  | n + 1, k, t, hk, h3 => by
    rw [b_sZonkF_l1.eq_2, zk]
    simp only [ty_eta]
    have e0 : decide ((k : Int) < 60) = true := decide_eq_true (by omega)
    rw [e0, gd_eq h1, gd_eq ⟨h1, h3⟩]
    have e3 : IntKind.i64.wrap ((k : Int) + 1) = ((k + 1 : Nat) : Int) := by rw [wrap_small (by omega) (by omega)]; omega
    have ih := sZonk_l1_eq s h1 n (k + 1) (apT s.bindings t) (by omega) (apT_tok h1 t h3)
    simp only [lt_, e3, cnd_true, ih]
    cases zbd s.bindings t <;> cases decide (tsz t < 4000) <;> rfl
def zkF (s : TInferState) (t : TType) : TType := zk s.bindings 60 t
theorem iZonk_eq (s : TInferState) (t : TType) {M : Nat} (hM : M ≤ 1048577) (h1 : bok s.bindings) (h2 : bnds M s.bindings) (h3 : tok t) (h4 : tnd t ≤ 4000 * M) : b_iZonk s t = some (zkF s t) := by
  unfold b_iZonk
  rw [gd_eq h3]
  exact iZonk_l1_eq s hM h1 h2 60 t h3 h4
theorem sZonkF_eq (s : TInferState) (t : TType) (h1 : bok s.bindings) (h3 : tok t) : b_sZonkF s t 61 = some (zkF s t) := by
  unfold b_sZonkF
  rw [gd_eq h3]
  exact sZonk_l1_eq s h1 60 0 t rfl h3
theorem zk_twt {l : List TBinding} (hl : ∀ b ∈ l, twt b.type_) : ∀ (n : Nat) (t : TType), twt t → twt (zk l n t)
  | 0, t, h => h
  | n + 1, t, h => by
    simp only [zk]
    cases zbd l t && decide (tsz t < 4000) with
    | false => exact h
    | true => exact zk_twt hl n _ (apT_twt hl t h)
theorem zk_W {l : List TBinding} {M B : Nat} (hM : M ≤ 1048577) (h2 : bnds M l) (hl : ∀ b ∈ l, W (eType b.type_) ≤ B) : ∀ (n : Nat) (t : TType), tnd t ≤ 4000 * M → W (eType (zk l n t)) ≤ W (eType t) + n * (4000 * B)
  | 0, t, _ => by simp [zk]
  | n + 1, t, h4 => by
    simp only [zk]
    have hz : tsz t = tnd t := tsz_small t (by omega)
    cases hb : zbd l t && decide (tsz t < 4000) with
    | false => simp only [cnd_false]; omega
    | true =>
      simp only [Bool.and_eq_true, decide_eq_true_eq] at hb
      have h5 : tnd t < 4000 := by omega
      have := apT_tnd h2 t
      have h6 : M * tnd t ≤ M * 4000 := Nat.mul_le_mul_left M (by omega)
      have ih := zk_W hM h2 hl n (apT l t) (by omega)
      have h7 := apT_W hl t
      have h8 : tnd t * B ≤ 4000 * B := Nat.mul_le_mul_right B (by omega)
      simp only [cnd_true]
      rw [Nat.add_mul, Nat.one_mul]
      omega
theorem bind_W {l : List TBinding} {b : TBinding} (hb : b ∈ l) : W (eType b.type_) ≤ Ws (eBindings l) := by
  have h1 : eBinding b ∈ eBindings l := by
    rw [show eBindings l = l.map eBinding from Enc.h l]
    exact List.mem_map_of_mem hb
  have h2 := W_le_of_mem h1
  obtain ⟨v, t⟩ := b
  simp only [eBinding, W, Ws] at h2
  show W (eType t) ≤ _
  omega
theorem bothZonk {u v : U} (h : wt (.st 24) u) (h2 : wt (.st 1) v) : ∃ r0, wt (.st 1) r0 ∧ (W u ≤ 1048576 → W v ≤ 1048576 → SpecP Try.prog 7 [.d u, .d v] [r0] ∧ SpecO Try.prog 10 [.d u, .d v] [34] [r0] ∧ W r0 ≤ 1099511627776) := by
  obtain ⟨s, rfl⟩ := ofInferState u h
  obtain ⟨t, rfl⟩ := ofType v h2
  have hbw : ∀ b ∈ s.bindings, twt b.type_ := by
    obtain ⟨f0, f1, f2, bs, f4, f5, f6, f7⟩ := s
    obtain ⟨q0, q1, q2, q3, q4, q5, q6, q7, e, p0, p1, p2, p3, p4, p5, p6, p7⟩ := inv_InferState h
    simp only [eInferState, U.st.injEq, List.cons.injEq, U.sl.injEq, true_and] at e
    obtain ⟨_, _, _, rfl, _⟩ := e
    intro b hb
    have h1 : eBinding b ∈ eBindings bs := by
      rw [show eBindings bs = bs.map eBinding from Enc.h bs]
      exact List.mem_map_of_mem hb
    have h3 := p3.2 _ h1
    obtain ⟨v, tt⟩ := b
    obtain ⟨g0, g1, e2, _, h4⟩ := inv_Binding h3
    simp only [eBinding, U.st.injEq, List.cons.injEq, and_true] at e2
    obtain ⟨_, rfl⟩ := e2
    exact h4
  refine ⟨eType (zkF s t), zk_twt hbw 60 t h2, fun hw hw2 => ?_⟩
  have hB : ∀ b ∈ s.bindings, W (eType b.type_) ≤ 1048576 := by
    intro b hb
    have h1 := bind_W hb
    obtain ⟨f0, f1, f2, bs, f4, f5, f6, f7⟩ := s
    simp only [eInferState, W, Ws] at hw
    simp only at h1
    omega
  have h1 : bok s.bindings := fun b hb => tok_W _ (by have := hB b hb; omega)
  have hM : bnds 1048577 s.bindings := ⟨by decide, fun b hb => by have := hB b hb; have := tnd_W b.type_; omega⟩
  have h3 : tok t := tok_W t (by omega)
  have h4 : tnd t ≤ 4000 * 1048577 := by have := tnd_W t; omega
  have e1 := iZonk_eq s t (Nat.le_refl _) h1 hM h3 h4
  refine ⟨w_sZonkF s t (sZonkF_eq s t h1 h3), w_iZonkF s t (r := zkF s t) ?_, ?_⟩
  · unfold b_iZonkF
    rw [e1]
    rfl
  · have := zk_W (Nat.le_refl _) hM hB 60 t h4
    show W (eType (zk s.bindings 60 t)) ≤ _
    omega

end Go.Proofs.Ythojhakapbfbiaa
