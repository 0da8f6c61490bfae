/- Sc2. Written by a program of mine (aw.py). -/
import Derived.Test.YthojhakapbfbiaaFacts
import Derived.Test.YthojhakapbfbiaaSc1
set_option linter.unusedVariables false
set_option linter.unusedSimpArgs false
set_option linter.unusedSectionVars false
namespace Go.Proofs.Ythojhakapbfbiaa
open Go Go.Eng
attribute [local irreducible] V VO VQ VY Quiet QR SpecP SpecO MSpec Rng PostP PostO PostG
def b_copyNames (a0 : List (List UInt8)) : Option (List (List UInt8)) :=
gd (a0.length ≤ 4294967296) (
(some a0))
set_option maxHeartbeats 4000000 in
theorem w_copyNames (a0 : List (List UInt8)) {r : List (List UInt8)} (h : b_copyNames a0 = some r) : SpecO Try.prog 92 [.d (.sl 1 (eStrs a0))] [9] [.sl 1 (eStrs r)] := by
  unfold b_copyNames at h
  refine SpecO_intro Try.func92 rfl (by kernel_rfl) rfl (by simp) fun A _ => ?_
  refine goL ?_
  obtain ⟨g1, h⟩ := gd_s h
  refine VO_ap0 g1 ?_
  refine goL ?_
  refine V_ret ?_
  replace h := Option.some.inj h
  subst h
  exact R_rO
def b_subst1 (l : List TBinding) (t : TType) : Option (TType) :=
gd (bok l ∧ tok t) (lt_ (apT l t) fun x2 =>
(some x2))
set_option maxHeartbeats 4000000 in
theorem w_subst1 (l : List TBinding) (t : TType) {r : TType} (h : b_subst1 l t = some r) : Go.Eng.Spec Try.prog 56 [.d (eType t), .ptr 0 0] [.box [.d (.sl 4 (eBindings l))]] (fun sv Lo => sv = .ag [.d (.i .i64 r.kind), .d (.s r.name), .sl 1 0] ∧ Lo = [.box [.d (.sl 4 (eBindings l))], .own 34 3 0 (eTypes r.args)]) := by
  obtain ⟨t_0, t_1, t_2⟩ := t
  unfold b_subst1 at h
  refine Spec_intro 1 Try.func56 rfl (by kernel_rfl) rfl rfl fun A _ => ?_
  refine goL ?_
  obtain ⟨g1, h⟩ := gd_s h
  obtain ⟨x2, hx2, h⟩ := lt_x h
  obtain ⟨x2_0, x2_1, x2_2⟩ := x2
  have sx2 := t_iApply l (TType.mk t_0 t_1 t_2) g1
  rw [hx2] at sx2
  refine VO_co (sx2) ?_
  refine goL ?_
  refine V_pk (fr' := [(3, .ptr 2 0)]) (Lc := [.box [.d (.sl 4 (eBindings l))], .own 34 3 0 (eTypes x2_2), .box [.d (.i .i64 x2_0), .d (.s x2_1), .sl 1 0]]) 1 [0, 3, 2] ?_
  refine V_ret ?_
  replace h := Option.some.inj h
  subst h
  exact R_rH [.ag [.d (.i .i64 x2_0), .d (.s x2_1), .sl 1 0]] [.box [.d (.sl 4 (eBindings l))], .own 34 3 0 (eTypes x2_2)] ⟨rfl, rfl⟩
def b_mapCore_l4 (rec_mapCore : (List TBinding) → TCore → Option (TCore)) (l : List TBinding) (e : TCore) (x1 : TType) (y2 : List TType) (y10 : List TEvidence) (y19 : List TCore) : List TCoreArm → (List TCoreArm) → Option (TCore)
  | [], y27 => (some (TCore.mk e.kind e.trait e.name e.n x1 y2 y10 y19 y27))
  | x32 :: xs, y27 => bnd (b_copyNames x32.vars) fun x33 =>
bnd (rec_mapCore l x32.body) fun x34 =>
gd (y27.length + [(TCoreArm.mk x32.constructor x33 x34)].length ≤ 4294967296) (
b_mapCore_l4 rec_mapCore l e x1 y2 y10 y19 xs (y27 ++ [(TCoreArm.mk x32.constructor x33 x34)]))
def b_mapCore_l3 (rec_mapCore : (List TBinding) → TCore → Option (TCore)) (l : List TBinding) (e : TCore) (x1 : TType) (y2 : List TType) (y10 : List TEvidence) : List TCore → (List TCore) → Option (TCore)
  | [], y19 => b_mapCore_l4 rec_mapCore l e x1 y2 y10 y19 e.arms []
  | x24 :: xs, y19 => bnd (rec_mapCore l x24) fun x25 =>
gd (y19.length + [x25].length ≤ 4294967296) (
b_mapCore_l3 rec_mapCore l e x1 y2 y10 xs (y19 ++ [x25]))
def b_mapCore_l2 (rec_mapCore : (List TBinding) → TCore → Option (TCore)) (l : List TBinding) (e : TCore) (x1 : TType) (y2 : List TType) : List TEvidence → (List TEvidence) → Option (TCore)
  | [], y10 => b_mapCore_l3 rec_mapCore l e x1 y2 y10 e.args []
  | x15 :: xs, y10 => gd (eok x15) (lt_ (idE x15) fun x17 =>
gd (y10.length + [x17].length ≤ 4294967296) (
b_mapCore_l2 rec_mapCore l e x1 y2 xs (y10 ++ [x17])))
def b_mapCore_l1 (rec_mapCore : (List TBinding) → TCore → Option (TCore)) (l : List TBinding) (e : TCore) (x1 : TType) : List TType → (List TType) → Option (TCore)
  | [], y2 => b_mapCore_l2 rec_mapCore l e x1 y2 e.evidence []
  | x7 :: xs, y2 => bnd (b_subst1 l x7) fun x8 =>
gd (y2.length + [x8].length ≤ 4294967296) (
b_mapCore_l1 rec_mapCore l e x1 xs (y2 ++ [x8]))
def b_mapCore (rec_mapCore : (List TBinding) → TCore → Option (TCore)) (l : List TBinding) (e : TCore) : Option (TCore) :=
bnd (b_subst1 l e.type_) fun x1 =>
b_mapCore_l1 rec_mapCore l e x1 e.typeArgs []
set_option maxHeartbeats 4000000 in
theorem w_mapCore {rec_mapCore : (List TBinding) → TCore → Option (TCore)} (hrec_mapCore : ∀ (x0 : List TBinding) (x1 : TCore) {r : TCore}, rec_mapCore x0 x1 = some r → Go.Eng.Spec Try.prog 55 [.d (eCore x1), .fn 56 [.ptr 0 0], .fn 58 []] [.box [.d (.sl 4 (eBindings x0))]] (fun sv Lo => sv = .ag [.d (.i .i64 r.kind), .d (.s r.trait), .d (.s r.name), .d (.i .i64 r.n), .d (.i .i64 r.type_.kind), .d (.s r.type_.name), .sl 1 0, .sl 2 0, .sl 3 0, .sl 4 0, .sl 5 0] ∧ Lo = [.box [.d (.sl 4 (eBindings x0))], .own 34 3 0 (eTypes r.type_.args), .own 34 3 0 (eTypes r.typeArgs), .own 149 5 0 (eEvidences r.evidence), .own 59 11 0 (eCores r.args), .own 94 13 0 (eCoreArms r.arms)])) (l : List TBinding) (e : TCore) {r : TCore} (h : b_mapCore rec_mapCore l e = some r) : Go.Eng.Spec Try.prog 55 [.d (eCore e), .fn 56 [.ptr 0 0], .fn 58 []] [.box [.d (.sl 4 (eBindings l))]] (fun sv Lo => sv = .ag [.d (.i .i64 r.kind), .d (.s r.trait), .d (.s r.name), .d (.i .i64 r.n), .d (.i .i64 r.type_.kind), .d (.s r.type_.name), .sl 1 0, .sl 2 0, .sl 3 0, .sl 4 0, .sl 5 0] ∧ Lo = [.box [.d (.sl 4 (eBindings l))], .own 34 3 0 (eTypes r.type_.args), .own 34 3 0 (eTypes r.typeArgs), .own 149 5 0 (eEvidences r.evidence), .own 59 11 0 (eCores r.args), .own 94 13 0 (eCoreArms r.arms)]) := by
  obtain ⟨e_0, e_1, e_2, e_3, ⟨e_4_0, e_4_1, e_4_2⟩, e_5, e_6, e_7, e_8⟩ := e
  unfold b_mapCore at h
  refine Spec_intro 1 Try.func55 rfl (by kernel_rfl) rfl rfl fun A _ => ?_
  refine goNL ?_
  obtain ⟨x1, hx1, h⟩ := bnd_s h
  obtain ⟨x1_0, x1_1, x1_2⟩ := x1
  refine V_seq_drawTJ (P := Try.prog) Mix.h (.q 0 (.q 1 (.q 2 (.q 3 (.q 4 (.q 5 (.q 6 (.q 7 (.q 8 (.q 9 (.q 10 (.h 11 (.q 12 (.h 13 (.h 14 .nil .nil) .nil)) (.h 13 (.h 11 (.q 12 (.h 14 .nil .nil)) .nil) .nil))))))))))))) ⟨[(1, .fn 56 [.ptr 0 0]), (2, .fn 58 []), (3, .ptr 1 0), (6, .ptr 2 0), (7, .ptr 4 0)], [.box [.d (.sl 4 (eBindings l))], .box [.d (.i .i64 e_0), .d (.s e_1), .d (.s e_2), .d (.i .i64 e_3), .d (.i .i64 e_4_0), .d (.s e_4_1), .d (.sl 3 (eTypes e_4_2)), .d (.sl 3 (eTypes e_5)), .d (.sl 5 (eEvidences e_6)), .d (.sl 11 (eCores e_7)), .d (.sl 13 (eCoreArms e_8))], .box [.d (.i .i64 0), .d (.s []), .d (.s []), .d (.i .i64 0), .d (.i .i64 0), .d (.s []), .nilsl, .nilsl, .nilsl, .nilsl, .nilsl], .own 34 3 0 (eTypes x1_2), .box [.d (.i .i64 e_0), .d (.s e_1), .d (.s e_2), .d (.i .i64 e_3), .d (.i .i64 x1_0), .d (.s x1_1), .sl 3 0, .nilsl, .nilsl, .nilsl, .nilsl]], Try.f55.ntmps⟩ (by kernel_rfl) ?_ ?_
  · refine goT ?_
    refine VT_h (VY_cG (sv := .ag [.d (.i .i64 x1_0), .d (.s x1_1), .sl 3 0]) (L' := [.box [.d (.sl 4 (eBindings l))], .box [.d (.i .i64 e_0), .d (.s e_1), .d (.s e_2), .d (.i .i64 e_3), .d (.i .i64 e_4_0), .d (.s e_4_1), .d (.sl 3 (eTypes e_4_2)), .d (.sl 3 (eTypes e_5)), .d (.sl 5 (eEvidences e_6)), .d (.sl 11 (eCores e_7)), .d (.sl 13 (eCoreArms e_8))], .box [.d (.i .i64 0), .d (.s []), .d (.s []), .d (.i .i64 0), .d (.i .i64 0), .d (.s []), .nilsl, .nilsl, .nilsl, .nilsl, .nilsl], .own 34 3 0 (eTypes x1_2)]) [0] (w_subst1 l (TType.mk e_4_0 e_4_1 e_4_2) hx1) VY_e) ?_ ?_
    · refine goT ?_
      refine VT_nil ?_
      exact R_pk 1 [0, 1, 2, 3, 4]
    refine goT ?_
    refine VT_h1 (VY_cG (sv := .ag [.d (.i .i64 x1_0), .d (.s x1_1), .sl 4 0]) (L' := [.box [.d (.sl 4 (eBindings l))], .box [.d (.i .i64 e_0), .d (.s e_1), .d (.s e_2), .d (.i .i64 e_3), .d (.i .i64 e_4_0), .d (.s e_4_1), .d (.sl 3 (eTypes e_4_2)), .d (.sl 3 (eTypes e_5)), .d (.sl 5 (eEvidences e_6)), .d (.sl 11 (eCores e_7)), .d (.sl 13 (eCoreArms e_8))], .box [.d (.i .i64 0), .d (.s []), .d (.s []), .d (.i .i64 0), .d (.i .i64 0), .d (.s []), .nilsl, .nilsl, .nilsl, .nilsl, .nilsl], .box [.d (.i .i64 0), .d (.s []), .d (.s []), .d (.i .i64 0), .d (.i .i64 0), .d (.s []), .nilsl, .nilsl, .nilsl, .nilsl, .nilsl], .own 34 3 0 (eTypes x1_2)]) [0] (w_subst1 l (TType.mk e_4_0 e_4_1 e_4_2) hx1) VY_e) ?_
    refine goT ?_
    refine VT_nil ?_
    exact R_pk 1 [0, 1, 2, 4, 3]
  refine goL ?_
  refine V_block ?_
  show V _ _ _ _ _
  refine V_adopt 34 3 4 7 rfl rfl (by repeat constructor) (by repeat constructor) (by repeat constructor) (by repeat constructor) ?_
  show V _ _ _ _ _
  refine V_bd 30 (fun z5 => ?_)
  refine V_loop3 (fun (y4 : Nat) (y2 : List TType) (v3 : Nat) => ⟨[(1, .fn 56 [.ptr 0 0]), (2, .fn 58 []), (3, .ptr 1 0), (6, .ptr 2 0), (7, .ptr 4 0), (30, .d (.sl 3 (eTypes e_5))), (31, .d (.i .i64 (e_5.length : Int))), (32, .d (.i .i64 (y4 : Int)))], [.box [.d (.sl 4 (eBindings l))], .box [.d (.i .i64 e_0), .d (.s e_1), .d (.s e_2), .d (.i .i64 e_3), .d (.i .i64 e_4_0), .d (.s e_4_1), .d (.sl 3 (eTypes e_4_2)), .d (.sl 3 (eTypes e_5)), .d (.sl 5 (eEvidences e_6)), .d (.sl 11 (eCores e_7)), .d (.sl 13 (eCoreArms e_8))], .box [.d (.i .i64 0), .d (.s []), .d (.s []), .d (.i .i64 0), .d (.i .i64 0), .d (.s []), .nilsl, .nilsl, .nilsl, .nilsl, .nilsl], .own 34 3 0 (eTypes x1_2), .box [.d (.i .i64 e_0), .d (.s e_1), .d (.s e_2), .d (.i .i64 e_3), .d (.i .i64 x1_0), .d (.s x1_1), .sl 3 0, .sl 5 v3, .nilsl, .nilsl, .nilsl], .own 34 3 v3 (eTypes y2)], Try.f55.ntmps⟩) (fun y4 y2 v3 => b_mapCore_l1 rec_mapCore l (TCore.mk e_0 e_1 e_2 e_3 (TType.mk e_4_0 e_4_1 e_4_2) e_5 e_6 e_7 e_8) (TType.mk x1_0 x1_1 x1_2) (e_5.drop y4) y2 = some r) (fun y4 y2 v3 => e_5.length - y4) 0 [] 0 ⟨rfl, ⟨⟨rfl, rfl⟩, ⟨rfl, rfl⟩, ⟨rfl, rfl⟩, ⟨rfl, rfl⟩, ⟨rfl, rfl⟩, ⟨rfl, rfl⟩, ⟨rfl, rfl⟩, ⟨rfl, rfl⟩, trivial⟩, ⟨[], rfl⟩, rfl⟩ h ?_
  rintro y4 y2 v3 h
  refine goL ?_
  refine V_seq (V_cb (fun c6 => ?_) (fun c6 => ?_))
  · have hky42 := kltN c6
    obtain ⟨x7, hx7, hdx7⟩ := drop_at hky42
    rw [hdx7, b_mapCore_l1.eq_2] at h
    obtain ⟨x7_0, x7_1, x7_2⟩ := x7
    refine V_skip ?_
    show V _ _ _ _ _
    refine V_seq (V_block ?_)
    refine goL ?_
    refine VO_r (QR_ixn y4 (gType hx7)) ?_
    refine goNL ?_
    refine V_drawX (P := Try.prog) Mix.h [(0, true), (1, true), (2, true), (3, true), (4, false), (5, false), (6, false), (7, true), (8, false)] (by kernel_rfl) ?_
    refine goY ?_
    obtain ⟨x8, hx8, h⟩ := bnd_s h
    obtain ⟨x8_0, x8_1, x8_2⟩ := x8
    refine VY_cG (sv := .ag [.d (.i .i64 x8_0), .d (.s x8_1), .sl 7 0]) (L' := [.box [.d (.sl 4 (eBindings l))], .box [.d (.i .i64 e_0), .d (.s e_1), .d (.s e_2), .d (.i .i64 e_3), .d (.i .i64 e_4_0), .d (.s e_4_1), .d (.sl 3 (eTypes e_4_2)), .d (.sl 3 (eTypes e_5)), .d (.sl 5 (eEvidences e_6)), .d (.sl 11 (eCores e_7)), .d (.sl 13 (eCoreArms e_8))], .box [.d (.i .i64 0), .d (.s []), .d (.s []), .d (.i .i64 0), .d (.i .i64 0), .d (.s []), .nilsl, .nilsl, .nilsl, .nilsl, .nilsl], .own 34 3 0 (eTypes x1_2), .box [.d (.i .i64 e_0), .d (.s e_1), .d (.s e_2), .d (.i .i64 e_3), .d (.i .i64 x1_0), .d (.s x1_1), .sl 3 0, .sl 5 v3, .nilsl, .nilsl, .nilsl], .own 34 3 v3 (eTypes y2), .box [.d (.i .i64 x7_0), .d (.s x7_1), .d (.sl 3 (eTypes x7_2))], .own 34 3 0 (eTypes x8_2)]) [0] (w_subst1 l (TType.mk x7_0 x7_1 x7_2) hx8) ?_
    refine VY_l1t (T := 32) (TType.mk x8_0 x8_1 x8_2) ?_
    obtain ⟨g9, h⟩ := gd_s h
    refine VY_ap (T := 32) g9 ?_
    refine goY ?_
    refine VY_nil ?_
    refine goL ?_
    refine VO_r (QR_inc y4 (by omega)) ?_
    refine goL ?_
    exact ⟨(y4 + 1), (y2 ++ [(TType.mk x8_0 x8_1 x8_2)]), (v3 + 1), h, by omega, ⟨rfl, ⟨⟨rfl, rfl⟩, ⟨rfl, rfl⟩, ⟨rfl, rfl⟩, ⟨rfl, rfl⟩, ⟨rfl, rfl⟩, ⟨rfl, rfl⟩, ⟨rfl, rfl⟩, ⟨rfl, rfl⟩, trivial⟩, ⟨_, rfl⟩, rfl⟩⟩
  · have hky42 := kgeN c6
    rw [drop_end hky42, b_mapCore_l1.eq_1] at h
    refine V_exit ?_
    show V _ _ _ _ _
    refine goL ?_
    refine V_block ?_
    show V _ _ _ _ _
    refine V_adopt 149 5 4 8 rfl rfl (by repeat constructor) (by repeat constructor) (by repeat constructor) (by repeat constructor) ?_
    show V _ _ _ _ _
    refine V_bd 46 (fun z13 => ?_)
    refine V_loop3 (fun (y12 : Nat) (y10 : List TEvidence) (v11 : Nat) => ⟨[(1, .fn 56 [.ptr 0 0]), (2, .fn 58 []), (3, .ptr 1 0), (6, .ptr 2 0), (7, .ptr 4 0), (46, .d (.sl 5 (eEvidences e_6))), (47, .d (.i .i64 (e_6.length : Int))), (48, .d (.i .i64 (y12 : Int)))], [.box [.d (.sl 4 (eBindings l))], .box [.d (.i .i64 e_0), .d (.s e_1), .d (.s e_2), .d (.i .i64 e_3), .d (.i .i64 e_4_0), .d (.s e_4_1), .d (.sl 3 (eTypes e_4_2)), .d (.sl 3 (eTypes e_5)), .d (.sl 5 (eEvidences e_6)), .d (.sl 11 (eCores e_7)), .d (.sl 13 (eCoreArms e_8))], .box [.d (.i .i64 0), .d (.s []), .d (.s []), .d (.i .i64 0), .d (.i .i64 0), .d (.s []), .nilsl, .nilsl, .nilsl, .nilsl, .nilsl], .own 34 3 0 (eTypes x1_2), .box [.d (.i .i64 e_0), .d (.s e_1), .d (.s e_2), .d (.i .i64 e_3), .d (.i .i64 x1_0), .d (.s x1_1), .sl 3 0, .sl 5 v3, .sl 6 v11, .nilsl, .nilsl], .own 34 3 v3 (eTypes y2), .own 149 5 v11 (eEvidences y10)], Try.f55.ntmps⟩) (fun y12 y10 v11 => b_mapCore_l2 rec_mapCore l (TCore.mk e_0 e_1 e_2 e_3 (TType.mk e_4_0 e_4_1 e_4_2) e_5 e_6 e_7 e_8) (TType.mk x1_0 x1_1 x1_2) y2 (e_6.drop y12) y10 = some r) (fun y12 y10 v11 => e_6.length - y12) 0 [] 0 ⟨rfl, ⟨⟨rfl, rfl⟩, ⟨rfl, rfl⟩, ⟨rfl, rfl⟩, ⟨rfl, rfl⟩, ⟨rfl, rfl⟩, ⟨rfl, rfl⟩, ⟨rfl, rfl⟩, ⟨rfl, rfl⟩, trivial⟩, ⟨[], rfl⟩, rfl⟩ h ?_
    rintro y12 y10 v11 h
    refine goL ?_
    refine V_seq (V_cb (fun c14 => ?_) (fun c14 => ?_))
    · have hky122 := kltN c14
      obtain ⟨x15, hx15, hdx15⟩ := drop_at hky122
      rw [hdx15, b_mapCore_l2.eq_2] at h
      obtain ⟨x15_0, x15_1, ⟨x15_2_0, x15_2_1⟩, x15_3⟩ := x15
      refine V_skip ?_
      show V _ _ _ _ _
      refine V_seq (V_block ?_)
      refine goL ?_
      refine VO_r (QR_ixn y12 (gEvidence hx15)) ?_
      refine goNL ?_
      refine V_drawX (P := Try.prog) Mix.h [(0, true), (1, true), (2, true), (3, true), (4, false), (5, false), (6, false), (7, true), (8, false)] (by kernel_rfl) ?_
      refine goY ?_
      obtain ⟨g16, h⟩ := gd_s h
      obtain ⟨x17, hx17, h⟩ := lt_x h
      obtain ⟨x17_0, x17_1, ⟨x17_2_0, x17_2_1⟩, x17_3⟩ := x17
      have sx17 := t_iCopyEv (TEvidence.mk x15_0 x15_1 (TInstanceRef.mk x15_2_0 x15_2_1) x15_3) g16
      rw [hx17] at sx17
      refine VY_co (sx17) ?_
      refine VY_l1t (T := 55) (TEvidence.mk x17_0 x17_1 (TInstanceRef.mk x17_2_0 x17_2_1) x17_3) ?_
      obtain ⟨g18, h⟩ := gd_s h
      refine VY_ap (T := 55) g18 ?_
      refine goY ?_
      refine VY_nil ?_
      refine goL ?_
      refine VO_r (QR_inc y12 (by omega)) ?_
      refine goL ?_
      exact ⟨(y12 + 1), (y10 ++ [(TEvidence.mk x17_0 x17_1 (TInstanceRef.mk x17_2_0 x17_2_1) x17_3)]), (v11 + 1), h, by omega, ⟨rfl, ⟨⟨rfl, rfl⟩, ⟨rfl, rfl⟩, ⟨rfl, rfl⟩, ⟨rfl, rfl⟩, ⟨rfl, rfl⟩, ⟨rfl, rfl⟩, ⟨rfl, rfl⟩, ⟨rfl, rfl⟩, trivial⟩, ⟨_, rfl⟩, rfl⟩⟩
    · have hky122 := kgeN c14
      rw [drop_end hky122, b_mapCore_l2.eq_1] at h
      refine V_exit ?_
      show V _ _ _ _ _
      refine goL ?_
      refine V_block ?_
      show V _ _ _ _ _
      refine V_adopt 59 11 4 9 rfl rfl (by repeat constructor) (by repeat constructor) (by repeat constructor) (by repeat constructor) ?_
      show V _ _ _ _ _
      refine V_bd 62 (fun z22 => ?_)
      refine V_loop3 (fun (y21 : Nat) (y19 : List TCore) (v20 : Nat) => ⟨[(1, .fn 56 [.ptr 0 0]), (2, .fn 58 []), (3, .ptr 1 0), (6, .ptr 2 0), (7, .ptr 4 0), (62, .d (.sl 11 (eCores e_7))), (63, .d (.i .i64 (e_7.length : Int))), (64, .d (.i .i64 (y21 : Int)))], [.box [.d (.sl 4 (eBindings l))], .box [.d (.i .i64 e_0), .d (.s e_1), .d (.s e_2), .d (.i .i64 e_3), .d (.i .i64 e_4_0), .d (.s e_4_1), .d (.sl 3 (eTypes e_4_2)), .d (.sl 3 (eTypes e_5)), .d (.sl 5 (eEvidences e_6)), .d (.sl 11 (eCores e_7)), .d (.sl 13 (eCoreArms e_8))], .box [.d (.i .i64 0), .d (.s []), .d (.s []), .d (.i .i64 0), .d (.i .i64 0), .d (.s []), .nilsl, .nilsl, .nilsl, .nilsl, .nilsl], .own 34 3 0 (eTypes x1_2), .box [.d (.i .i64 e_0), .d (.s e_1), .d (.s e_2), .d (.i .i64 e_3), .d (.i .i64 x1_0), .d (.s x1_1), .sl 3 0, .sl 5 v3, .sl 6 v11, .sl 7 v20, .nilsl], .own 34 3 v3 (eTypes y2), .own 149 5 v11 (eEvidences y10), .own 59 11 v20 (eCores y19)], Try.f55.ntmps⟩) (fun y21 y19 v20 => b_mapCore_l3 rec_mapCore l (TCore.mk e_0 e_1 e_2 e_3 (TType.mk e_4_0 e_4_1 e_4_2) e_5 e_6 e_7 e_8) (TType.mk x1_0 x1_1 x1_2) y2 y10 (e_7.drop y21) y19 = some r) (fun y21 y19 v20 => e_7.length - y21) 0 [] 0 ⟨rfl, ⟨⟨rfl, rfl⟩, ⟨rfl, rfl⟩, ⟨rfl, rfl⟩, ⟨rfl, rfl⟩, ⟨rfl, rfl⟩, ⟨rfl, rfl⟩, ⟨rfl, rfl⟩, ⟨rfl, rfl⟩, trivial⟩, ⟨[], rfl⟩, rfl⟩ h ?_
      rintro y21 y19 v20 h
      refine goL ?_
      refine V_seq (V_cb (fun c23 => ?_) (fun c23 => ?_))
      · have hky212 := kltN c23
        obtain ⟨x24, hx24, hdx24⟩ := drop_at hky212
        rw [hdx24, b_mapCore_l3.eq_2] at h
        obtain ⟨x24_0, x24_1, x24_2, x24_3, ⟨x24_4_0, x24_4_1, x24_4_2⟩, x24_5, x24_6, x24_7, x24_8⟩ := x24
        refine V_skip ?_
        show V _ _ _ _ _
        refine V_seq (V_block ?_)
        refine goL ?_
        refine VO_r (QR_ixn y21 (gCore hx24)) ?_
        refine goNL ?_
        refine V_drawX (P := Try.prog) Mix.h [(0, true), (1, true), (2, true), (3, true), (4, true), (5, false), (6, false), (7, false), (8, true), (9, false)] (by kernel_rfl) ?_
        refine goY ?_
        obtain ⟨x25, hx25, h⟩ := bnd_s h
        obtain ⟨x25_0, x25_1, x25_2, x25_3, ⟨x25_4_0, x25_4_1, x25_4_2⟩, x25_5, x25_6, x25_7, x25_8⟩ := x25
        refine VY_cG (sv := .ag [.d (.i .i64 x25_0), .d (.s x25_1), .d (.s x25_2), .d (.i .i64 x25_3), .d (.i .i64 x25_4_0), .d (.s x25_4_1), .sl 9 0, .sl 10 0, .sl 11 0, .sl 12 0, .sl 13 0]) (L' := [.box [.d (.sl 4 (eBindings l))], .box [.d (.i .i64 e_0), .d (.s e_1), .d (.s e_2), .d (.i .i64 e_3), .d (.i .i64 e_4_0), .d (.s e_4_1), .d (.sl 3 (eTypes e_4_2)), .d (.sl 3 (eTypes e_5)), .d (.sl 5 (eEvidences e_6)), .d (.sl 11 (eCores e_7)), .d (.sl 13 (eCoreArms e_8))], .box [.d (.i .i64 0), .d (.s []), .d (.s []), .d (.i .i64 0), .d (.i .i64 0), .d (.s []), .nilsl, .nilsl, .nilsl, .nilsl, .nilsl], .own 34 3 0 (eTypes x1_2), .box [.d (.i .i64 e_0), .d (.s e_1), .d (.s e_2), .d (.i .i64 e_3), .d (.i .i64 x1_0), .d (.s x1_1), .sl 3 0, .sl 5 v3, .sl 6 v11, .sl 7 v20, .nilsl], .own 34 3 v3 (eTypes y2), .own 149 5 v11 (eEvidences y10), .own 59 11 v20 (eCores y19), .box [.d (.i .i64 x24_0), .d (.s x24_1), .d (.s x24_2), .d (.i .i64 x24_3), .d (.i .i64 x24_4_0), .d (.s x24_4_1), .d (.sl 3 (eTypes x24_4_2)), .d (.sl 3 (eTypes x24_5)), .d (.sl 5 (eEvidences x24_6)), .d (.sl 11 (eCores x24_7)), .d (.sl 13 (eCoreArms x24_8))], .own 34 3 0 (eTypes x25_4_2), .own 34 3 0 (eTypes x25_5), .own 149 5 0 (eEvidences x25_6), .own 59 11 0 (eCores x25_7), .own 94 13 0 (eCoreArms x25_8)]) [0] (hrec_mapCore l (TCore.mk x24_0 x24_1 x24_2 x24_3 (TType.mk x24_4_0 x24_4_1 x24_4_2) x24_5 x24_6 x24_7 x24_8) hx25) ?_
        refine VY_l1t (T := 56) (TCore.mk x25_0 x25_1 x25_2 x25_3 (TType.mk x25_4_0 x25_4_1 x25_4_2) x25_5 x25_6 x25_7 x25_8) ?_
        obtain ⟨g26, h⟩ := gd_s h
        refine VY_ap (T := 56) g26 ?_
        refine goY ?_
        refine VY_nil ?_
        refine goL ?_
        refine VO_r (QR_inc y21 (by omega)) ?_
        refine goL ?_
        exact ⟨(y21 + 1), (y19 ++ [(TCore.mk x25_0 x25_1 x25_2 x25_3 (TType.mk x25_4_0 x25_4_1 x25_4_2) x25_5 x25_6 x25_7 x25_8)]), (v20 + 1), h, by omega, ⟨rfl, ⟨⟨rfl, rfl⟩, ⟨rfl, rfl⟩, ⟨rfl, rfl⟩, ⟨rfl, rfl⟩, ⟨rfl, rfl⟩, ⟨rfl, rfl⟩, ⟨rfl, rfl⟩, ⟨rfl, rfl⟩, trivial⟩, ⟨_, rfl⟩, rfl⟩⟩
      · have hky212 := kgeN c23
        rw [drop_end hky212, b_mapCore_l3.eq_1] at h
        refine V_exit ?_
        show V _ _ _ _ _
        refine goL ?_
        refine V_block ?_
        show V _ _ _ _ _
        refine V_adopt 94 13 4 10 rfl rfl (by repeat constructor) (by repeat constructor) (by repeat constructor) (by repeat constructor) ?_
        show V _ _ _ _ _
        refine V_bd 79 (fun z30 => ?_)
        refine V_loop3 (fun (y29 : Nat) (y27 : List TCoreArm) (v28 : Nat) => ⟨[(1, .fn 56 [.ptr 0 0]), (2, .fn 58 []), (6, .ptr 2 0), (7, .ptr 4 0), (79, .d (.sl 13 (eCoreArms e_8))), (80, .d (.i .i64 (e_8.length : Int))), (81, .d (.i .i64 (y29 : Int)))], [.box [.d (.sl 4 (eBindings l))], .box [.d (.i .i64 e_0), .d (.s e_1), .d (.s e_2), .d (.i .i64 e_3), .d (.i .i64 e_4_0), .d (.s e_4_1), .d (.sl 3 (eTypes e_4_2)), .d (.sl 3 (eTypes e_5)), .d (.sl 5 (eEvidences e_6)), .d (.sl 11 (eCores e_7)), .d (.sl 13 (eCoreArms e_8))], .box [.d (.i .i64 0), .d (.s []), .d (.s []), .d (.i .i64 0), .d (.i .i64 0), .d (.s []), .nilsl, .nilsl, .nilsl, .nilsl, .nilsl], .own 34 3 0 (eTypes x1_2), .box [.d (.i .i64 e_0), .d (.s e_1), .d (.s e_2), .d (.i .i64 e_3), .d (.i .i64 x1_0), .d (.s x1_1), .sl 3 0, .sl 5 v3, .sl 6 v11, .sl 7 v20, .sl 8 v28], .own 34 3 v3 (eTypes y2), .own 149 5 v11 (eEvidences y10), .own 59 11 v20 (eCores y19), .own 94 13 v28 (eCoreArms y27)], Try.f55.ntmps⟩) (fun y29 y27 v28 => b_mapCore_l4 rec_mapCore l (TCore.mk e_0 e_1 e_2 e_3 (TType.mk e_4_0 e_4_1 e_4_2) e_5 e_6 e_7 e_8) (TType.mk x1_0 x1_1 x1_2) y2 y10 y19 (e_8.drop y29) y27 = some r) (fun y29 y27 v28 => e_8.length - y29) 0 [] 0 ⟨rfl, ⟨⟨rfl, rfl⟩, ⟨rfl, rfl⟩, ⟨rfl, rfl⟩, ⟨rfl, rfl⟩, ⟨rfl, rfl⟩, ⟨rfl, rfl⟩, ⟨rfl, rfl⟩, trivial⟩, ⟨[], rfl⟩, rfl⟩ h ?_
        rintro y29 y27 v28 h
        refine goL ?_
        refine V_seq (V_cb (fun c31 => ?_) (fun c31 => ?_))
        · have hky292 := kltN c31
          obtain ⟨x32, hx32, hdx32⟩ := drop_at hky292
          rw [hdx32, b_mapCore_l4.eq_2] at h
          obtain ⟨x32_0, x32_1, ⟨x32_2_0, x32_2_1, x32_2_2, x32_2_3, ⟨x32_2_4_0, x32_2_4_1, x32_2_4_2⟩, x32_2_5, x32_2_6, x32_2_7, x32_2_8⟩⟩ := x32
          refine V_skip ?_
          show V _ _ _ _ _
          refine V_seq (V_block ?_)
          refine goL ?_
          refine VO_r (QR_ixn y29 (gCoreArm hx32)) ?_
          refine goNL ?_
          refine V_drawX (P := Try.prog) Mix.h [(0, true), (1, true), (2, true), (3, true), (4, true), (5, true), (7, true), (8, true), (9, true), (10, true), (6, false), (11, false), (12, true), (13, false), (14, false), (15, true), (16, false)] (by kernel_rfl) ?_
          refine goY ?_
          obtain ⟨x33, hx33, h⟩ := bnd_s h
          refine VY_co (w_copyNames x32_1 hx33) ?_
          obtain ⟨x34, hx34, h⟩ := bnd_s h
          obtain ⟨x34_0, x34_1, x34_2, x34_3, ⟨x34_4_0, x34_4_1, x34_4_2⟩, x34_5, x34_6, x34_7, x34_8⟩ := x34
          refine VY_cG (sv := .ag [.d (.i .i64 x34_0), .d (.s x34_1), .d (.s x34_2), .d (.i .i64 x34_3), .d (.i .i64 x34_4_0), .d (.s x34_4_1), .sl 11 0, .sl 12 0, .sl 13 0, .sl 14 0, .sl 15 0]) (L' := [.box [.d (.sl 4 (eBindings l))], .box [.d (.i .i64 e_0), .d (.s e_1), .d (.s e_2), .d (.i .i64 e_3), .d (.i .i64 e_4_0), .d (.s e_4_1), .d (.sl 3 (eTypes e_4_2)), .d (.sl 3 (eTypes e_5)), .d (.sl 5 (eEvidences e_6)), .d (.sl 11 (eCores e_7)), .d (.sl 13 (eCoreArms e_8))], .box [.d (.i .i64 0), .d (.s []), .d (.s []), .d (.i .i64 0), .d (.i .i64 0), .d (.s []), .nilsl, .nilsl, .nilsl, .nilsl, .nilsl], .own 34 3 0 (eTypes x1_2), .box [.d (.i .i64 e_0), .d (.s e_1), .d (.s e_2), .d (.i .i64 e_3), .d (.i .i64 x1_0), .d (.s x1_1), .sl 3 0, .sl 5 v3, .sl 6 v11, .sl 7 v20, .sl 8 v28], .own 34 3 v3 (eTypes y2), .own 149 5 v11 (eEvidences y10), .own 59 11 v20 (eCores y19), .own 94 13 v28 (eCoreArms y27), .box [.d (.s x32_0), .d (.sl 1 (eStrs x32_1)), .d (.i .i64 x32_2_0), .d (.s x32_2_1), .d (.s x32_2_2), .d (.i .i64 x32_2_3), .d (.i .i64 x32_2_4_0), .d (.s x32_2_4_1), .d (.sl 3 (eTypes x32_2_4_2)), .d (.sl 3 (eTypes x32_2_5)), .d (.sl 5 (eEvidences x32_2_6)), .d (.sl 11 (eCores x32_2_7)), .d (.sl 13 (eCoreArms x32_2_8))], .own 9 1 0 (eStrs x33), .own 34 3 0 (eTypes x34_4_2), .own 34 3 0 (eTypes x34_5), .own 149 5 0 (eEvidences x34_6), .own 59 11 0 (eCores x34_7), .own 94 13 0 (eCoreArms x34_8)]) [0] (hrec_mapCore l (TCore.mk x32_2_0 x32_2_1 x32_2_2 x32_2_3 (TType.mk x32_2_4_0 x32_2_4_1 x32_2_4_2) x32_2_5 x32_2_6 x32_2_7 x32_2_8) hx34) ?_
          refine goY ?_
          refine VY_l1t (T := 57) (TCoreArm.mk x32_0 x33 (TCore.mk x34_0 x34_1 x34_2 x34_3 (TType.mk x34_4_0 x34_4_1 x34_4_2) x34_5 x34_6 x34_7 x34_8)) ?_
          obtain ⟨g35, h⟩ := gd_s h
          refine VY_ap (T := 57) g35 ?_
          refine goY ?_
          refine VY_nil ?_
          refine goL ?_
          refine VO_r (QR_inc y29 (by omega)) ?_
          refine goL ?_
          exact ⟨(y29 + 1), (y27 ++ [(TCoreArm.mk x32_0 x33 (TCore.mk x34_0 x34_1 x34_2 x34_3 (TType.mk x34_4_0 x34_4_1 x34_4_2) x34_5 x34_6 x34_7 x34_8))]), (v28 + 1), h, by omega, ⟨rfl, ⟨⟨rfl, rfl⟩, ⟨rfl, rfl⟩, ⟨rfl, rfl⟩, ⟨rfl, rfl⟩, ⟨rfl, rfl⟩, ⟨rfl, rfl⟩, ⟨rfl, rfl⟩, trivial⟩, ⟨_, rfl⟩, rfl⟩⟩
        · have hky292 := kgeN c31
          rw [drop_end hky292, b_mapCore_l4.eq_1] at h
          refine V_exit ?_
          show V _ _ _ _ _
          refine goL ?_
          refine V_pk (fr' := [(6, .ptr 6 0)]) (Lc := [.box [.d (.sl 4 (eBindings l))], .own 34 3 0 (eTypes x1_2), .own 34 3 v3 (eTypes y2), .own 149 5 v11 (eEvidences y10), .own 59 11 v20 (eCores y19), .own 94 13 v28 (eCoreArms y27), .box [.d (.i .i64 e_0), .d (.s e_1), .d (.s e_2), .d (.i .i64 e_3), .d (.i .i64 x1_0), .d (.s x1_1), .sl 1 0, .sl 2 v3, .sl 3 v11, .sl 4 v20, .sl 5 v28]]) 1 [0, 3, 5, 6, 7, 8, 2] ?_
          refine V_rv (fr' := [(6, .ptr 6 0)]) (L' := [.box [.d (.sl 4 (eBindings l))], .own 34 3 0 (eTypes x1_2), .own 34 3 0 (eTypes y2), .own 149 5 v11 (eEvidences y10), .own 59 11 v20 (eCores y19), .own 94 13 v28 (eCoreArms y27), .box [.d (.i .i64 e_0), .d (.s e_1), .d (.s e_2), .d (.i .i64 e_3), .d (.i .i64 x1_0), .d (.s x1_1), .sl 1 0, .sl 2 0, .sl 3 v11, .sl 4 v20, .sl 5 v28]]) 1 2 ?_
          refine V_rv (fr' := [(6, .ptr 6 0)]) (L' := [.box [.d (.sl 4 (eBindings l))], .own 34 3 0 (eTypes x1_2), .own 34 3 0 (eTypes y2), .own 149 5 0 (eEvidences y10), .own 59 11 v20 (eCores y19), .own 94 13 v28 (eCoreArms y27), .box [.d (.i .i64 e_0), .d (.s e_1), .d (.s e_2), .d (.i .i64 e_3), .d (.i .i64 x1_0), .d (.s x1_1), .sl 1 0, .sl 2 0, .sl 3 0, .sl 4 v20, .sl 5 v28]]) 1 3 ?_
          refine V_rv (fr' := [(6, .ptr 6 0)]) (L' := [.box [.d (.sl 4 (eBindings l))], .own 34 3 0 (eTypes x1_2), .own 34 3 0 (eTypes y2), .own 149 5 0 (eEvidences y10), .own 59 11 0 (eCores y19), .own 94 13 v28 (eCoreArms y27), .box [.d (.i .i64 e_0), .d (.s e_1), .d (.s e_2), .d (.i .i64 e_3), .d (.i .i64 x1_0), .d (.s x1_1), .sl 1 0, .sl 2 0, .sl 3 0, .sl 4 0, .sl 5 v28]]) 1 4 ?_
          refine V_rv (fr' := [(6, .ptr 6 0)]) (L' := [.box [.d (.sl 4 (eBindings l))], .own 34 3 0 (eTypes x1_2), .own 34 3 0 (eTypes y2), .own 149 5 0 (eEvidences y10), .own 59 11 0 (eCores y19), .own 94 13 0 (eCoreArms y27), .box [.d (.i .i64 e_0), .d (.s e_1), .d (.s e_2), .d (.i .i64 e_3), .d (.i .i64 x1_0), .d (.s x1_1), .sl 1 0, .sl 2 0, .sl 3 0, .sl 4 0, .sl 5 0]]) 1 5 ?_
          refine V_ret ?_
          replace h := Option.some.inj h
          subst h
          exact R_rH [.ag [.d (.i .i64 e_0), .d (.s e_1), .d (.s e_2), .d (.i .i64 e_3), .d (.i .i64 x1_0), .d (.s x1_1), .sl 1 0, .sl 2 0, .sl 3 0, .sl 4 0, .sl 5 0]] [.box [.d (.sl 4 (eBindings l))], .own 34 3 0 (eTypes x1_2), .own 34 3 0 (eTypes y2), .own 149 5 0 (eEvidences y10), .own 59 11 0 (eCores y19), .own 94 13 0 (eCoreArms y27)] ⟨rfl, rfl⟩
def m_mapCore : Nat → (List TBinding) → TCore → Option (TCore)
  | 0, _, _ => none
  | n + 1, x0, x1 => b_mapCore (m_mapCore n) x0 x1
theorem s_mapCore : ∀ (n : Nat) (x0 : List TBinding) (x1 : TCore) {r : TCore}, m_mapCore n x0 x1 = some r → Go.Eng.Spec Try.prog 55 [.d (eCore x1), .fn 56 [.ptr 0 0], .fn 58 []] [.box [.d (.sl 4 (eBindings x0))]] (fun sv Lo => sv = .ag [.d (.i .i64 r.kind), .d (.s r.trait), .d (.s r.name), .d (.i .i64 r.n), .d (.i .i64 r.type_.kind), .d (.s r.type_.name), .sl 1 0, .sl 2 0, .sl 3 0, .sl 4 0, .sl 5 0] ∧ Lo = [.box [.d (.sl 4 (eBindings x0))], .own 34 3 0 (eTypes r.type_.args), .own 34 3 0 (eTypes r.typeArgs), .own 149 5 0 (eEvidences r.evidence), .own 59 11 0 (eCores r.args), .own 94 13 0 (eCoreArms r.arms)]) := by
  intro n
  induction n with
  | zero => intro x0 x1 r h; cases h
  | succ n ih => intro x0 x1 r h; exact w_mapCore ih x0 x1 h
def b_sSubst_l2 (rec_sSubst : (List TBinding) → TCore → Option (TCore)) (a0 : List TBinding) (a1 : TCore) (x2 : TType) (x4 : List TType) (x6 : List TEvidence) (y7 : List TCore) : List TCoreArm → (List TCoreArm) → Option (TCore)
  | [], y15 => (some (TCore.mk a1.kind a1.trait a1.name a1.n x2 x4 x6 y7 y15))
  | x20 :: xs, y15 => gd (([] : List (List UInt8)).length + x20.vars.length ≤ 4294967296) (
bnd (rec_sSubst a0 x20.body) fun x22 =>
gd (y15.length + [(TCoreArm.mk x20.constructor ([] ++ x20.vars) x22)].length ≤ 4294967296) (
b_sSubst_l2 rec_sSubst a0 a1 x2 x4 x6 y7 xs (y15 ++ [(TCoreArm.mk x20.constructor ([] ++ x20.vars) x22)])))
def b_sSubst_l1 (rec_sSubst : (List TBinding) → TCore → Option (TCore)) (a0 : List TBinding) (a1 : TCore) (x2 : TType) (x4 : List TType) (x6 : List TEvidence) : List TCore → (List TCore) → Option (TCore)
  | [], y7 => b_sSubst_l2 rec_sSubst a0 a1 x2 x4 x6 y7 a1.arms []
  | x12 :: xs, y7 => bnd (rec_sSubst a0 x12) fun x13 =>
gd (y7.length + [x13].length ≤ 4294967296) (
b_sSubst_l1 rec_sSubst a0 a1 x2 x4 x6 xs (y7 ++ [x13]))
def b_sSubst (rec_sSubst : (List TBinding) → TCore → Option (TCore)) (a0 : List TBinding) (a1 : TCore) : Option (TCore) :=
gd (bok a0 ∧ tok a1.type_) (lt_ (apT a0 a1.type_) fun x2 =>
gd (bok a0 ∧ tsok a1.typeArgs) (lt_ (apTs a0 a1.typeArgs) fun x4 =>
gd (esok a1.evidence) (lt_ (idEs a1.evidence) fun x6 =>
b_sSubst_l1 rec_sSubst a0 a1 x2 x4 x6 a1.args [])))
set_option maxHeartbeats 4000000 in
theorem w_sSubst {rec_sSubst : (List TBinding) → TCore → Option (TCore)} (hrec_sSubst : ∀ (x0 : List TBinding) (x1 : TCore) {r : TCore}, rec_sSubst x0 x1 = some r → SpecO Try.prog 18 [.d (.sl 4 (eBindings x0)), .d (eCore x1)] [34, 34, 149, 59, 94] [eCore r]) (a0 : List TBinding) (a1 : TCore) {r : TCore} (h : b_sSubst rec_sSubst a0 a1 = some r) : SpecO Try.prog 18 [.d (.sl 4 (eBindings a0)), .d (eCore a1)] [34, 34, 149, 59, 94] [eCore r] := by
  obtain ⟨a1_0, a1_1, a1_2, a1_3, ⟨a1_4_0, a1_4_1, a1_4_2⟩, a1_5, a1_6, a1_7, a1_8⟩ := a1
  unfold b_sSubst at h
  refine SpecO_intro Try.func18 rfl (by kernel_rfl) rfl (by simp) fun A _ => ?_
  refine goNL ?_
  obtain ⟨g1, h⟩ := gd_s h
  obtain ⟨x2, hx2, h⟩ := lt_x h
  obtain ⟨x2_0, x2_1, x2_2⟩ := x2
  have sx2 := t_sApply a0 (TType.mk a1_4_0 a1_4_1 a1_4_2) g1
  rw [hx2] at sx2
  obtain ⟨g3, h⟩ := gd_s h
  obtain ⟨x4, hx4, h⟩ := lt_x h
  have sx4 := t_sApplyAll a0 a1_5 g3
  rw [hx4] at sx4
  obtain ⟨g5, h⟩ := gd_s h
  obtain ⟨x6, hx6, h⟩ := lt_x h
  have sx6 := t_sCopyEvs a1_6 g5
  rw [hx6] at sx6
  refine V_seq_drawTJ (P := Try.prog) Mix.h (.q 0 (.q 1 (.q 2 (.q 3 (.q 4 (.q 5 (.q 6 (.q 7 (.q 8 (.q 9 (.q 10 (.q 12 (.q 13 (.q 14 (.q 16 (.q 17 (.h 11 (.h 15 (.h 18 (.q 19 (.h 20 (.h 21 .nil .nil) .nil)) (.h 20 (.h 18 (.q 19 (.h 21 .nil .nil)) .nil) .nil)) (.h 20 (.h 15 (.h 18 (.q 19 (.h 21 .nil .nil)) .nil) .nil) .nil)) (.h 20 (.h 11 (.h 15 (.h 18 (.q 19 (.h 21 .nil .nil)) .nil) .nil) .nil) .nil)))))))))))))))))) ⟨[(0, .d (.sl 4 (eBindings a0))), (3, .ptr 0 0), (4, .ptr 1 0), (5, .ptr 5 0)], [.box [.d (.i .i64 a1_0), .d (.s a1_1), .d (.s a1_2), .d (.i .i64 a1_3), .d (.i .i64 a1_4_0), .d (.s a1_4_1), .d (.sl 3 (eTypes a1_4_2)), .d (.sl 3 (eTypes a1_5)), .d (.sl 5 (eEvidences a1_6)), .d (.sl 11 (eCores a1_7)), .d (.sl 13 (eCoreArms a1_8))], .box [.d (.i .i64 0), .d (.s []), .d (.s []), .d (.i .i64 0), .d (.i .i64 0), .d (.s []), .nilsl, .nilsl, .nilsl, .nilsl, .nilsl], .own 34 3 0 (eTypes x2_2), .own 34 3 0 (eTypes x4), .own 149 5 0 (eEvidences x6), .box [.d (.i .i64 a1_0), .d (.s a1_1), .d (.s a1_2), .d (.i .i64 a1_3), .d (.i .i64 x2_0), .d (.s x2_1), .sl 2 0, .sl 3 0, .sl 4 0, .nilsl, .nilsl]], Try.f18.ntmps⟩ (by kernel_rfl) ?_ ?_
  · refine goT ?_
    refine VT_h (VY_co (sx2) VY_e) ?_ ?_
    · refine VT_h (VY_co (sx4) VY_e) ?_ ?_
      · refine VT_h (VY_co (sx6) VY_e) ?_ ?_
        · refine goT ?_
          refine VT_nil ?_
          exact R_pk 0 [0, 1, 2, 3, 4, 5]
        refine goT ?_
        refine VT_h1 (VY_co (sx6) VY_e) ?_
        refine goT ?_
        refine VT_nil ?_
        exact R_pk 0 [0, 1, 2, 3, 5, 4]
      refine goT ?_
      refine VT_h1 (VY_co (sx4) VY_e) ?_
      refine VT_h1 (VY_co (sx6) VY_e) ?_
      refine goT ?_
      refine VT_nil ?_
      exact R_pk 0 [0, 1, 2, 4, 5, 3]
    refine goT ?_
    refine VT_h1 (VY_co (sx2) VY_e) ?_
    refine VT_h1 (VY_co (sx4) VY_e) ?_
    refine VT_h1 (VY_co (sx6) VY_e) ?_
    refine goT ?_
    refine VT_nil ?_
    exact R_pk 0 [0, 1, 3, 4, 5, 2]
  refine goL ?_
  refine V_block ?_
  show V _ _ _ _ _
  refine V_adopt 59 11 5 9 rfl rfl (by repeat constructor) (by repeat constructor) (by repeat constructor) (by repeat constructor) ?_
  show V _ _ _ _ _
  refine V_bdc 0 9 (fun z10 => ?_)
  refine V_loop3 (fun (y9 : Nat) (y7 : List TCore) (v8 : Nat) => ⟨[(0, .d (.sl 4 (eBindings a0))), (3, .ptr 0 0), (4, .ptr 1 0), (5, .ptr 5 0), (6, .d (.i .i64 (y9 : Int)))], [.box [.d (.i .i64 a1_0), .d (.s a1_1), .d (.s a1_2), .d (.i .i64 a1_3), .d (.i .i64 a1_4_0), .d (.s a1_4_1), .d (.sl 3 (eTypes a1_4_2)), .d (.sl 3 (eTypes a1_5)), .d (.sl 5 (eEvidences a1_6)), .d (.sl 11 (eCores a1_7)), .d (.sl 13 (eCoreArms a1_8))], .box [.d (.i .i64 0), .d (.s []), .d (.s []), .d (.i .i64 0), .d (.i .i64 0), .d (.s []), .nilsl, .nilsl, .nilsl, .nilsl, .nilsl], .own 34 3 0 (eTypes x2_2), .own 34 3 0 (eTypes x4), .own 149 5 0 (eEvidences x6), .box [.d (.i .i64 a1_0), .d (.s a1_1), .d (.s a1_2), .d (.i .i64 a1_3), .d (.i .i64 x2_0), .d (.s x2_1), .sl 2 0, .sl 3 0, .sl 4 0, .sl 6 v8, .nilsl], .own 59 11 v8 (eCores y7)], Try.f18.ntmps⟩) (fun y9 y7 v8 => b_sSubst_l1 rec_sSubst a0 (TCore.mk a1_0 a1_1 a1_2 a1_3 (TType.mk a1_4_0 a1_4_1 a1_4_2) a1_5 a1_6 a1_7 a1_8) (TType.mk x2_0 x2_1 x2_2) x4 x6 (a1_7.drop y9) y7 = some r) (fun y9 y7 v8 => a1_7.length - y9) 0 [] 0 ⟨rfl, ⟨⟨rfl, rfl⟩, ⟨rfl, rfl⟩, ⟨rfl, rfl⟩, ⟨rfl, rfl⟩, ⟨rfl, rfl⟩, trivial⟩, ⟨[], rfl⟩, rfl⟩ h ?_
  rintro y9 y7 v8 h
  refine goL ?_
  refine V_cb (fun c11 => ?_) (fun c11 => ?_)
  · have hky92 := kltN c11
    obtain ⟨x12, hx12, hdx12⟩ := drop_at hky92
    rw [hdx12, b_sSubst_l1.eq_2] at h
    obtain ⟨x12_0, x12_1, x12_2, x12_3, ⟨x12_4_0, x12_4_1, x12_4_2⟩, x12_5, x12_6, x12_7, x12_8⟩ := x12
    refine V_skip ?_
    show V _ _ _ _ _
    refine V_seq (V_block ?_)
    refine V_drawX (P := Try.prog) Mix.h [(0, true), (1, true), (2, true), (3, true), (4, true), (5, true), (6, true), (7, true), (8, false), (9, false), (10, false), (11, true), (12, false)] (by kernel_rfl) ?_
    refine goY ?_
    refine VY_ri rfl (QR_ixn y9 (gCore hx12)) ?_
    refine goY ?_
    obtain ⟨x13, hx13, h⟩ := bnd_s h
    obtain ⟨x13_0, x13_1, x13_2, x13_3, ⟨x13_4_0, x13_4_1, x13_4_2⟩, x13_5, x13_6, x13_7, x13_8⟩ := x13
    refine VY_co (hrec_sSubst a0 (TCore.mk x12_0 x12_1 x12_2 x12_3 (TType.mk x12_4_0 x12_4_1 x12_4_2) x12_5 x12_6 x12_7 x12_8) hx13) ?_
    refine VY_l1t (T := 56) (TCore.mk x13_0 x13_1 x13_2 x13_3 (TType.mk x13_4_0 x13_4_1 x13_4_2) x13_5 x13_6 x13_7 x13_8) ?_
    obtain ⟨g14, h⟩ := gd_s h
    refine VY_ap (T := 56) g14 ?_
    refine goY ?_
    refine VY_nil ?_
    refine goL ?_
    refine VO_r (QR_inc y9 (by omega)) ?_
    refine goL ?_
    exact ⟨(y9 + 1), (y7 ++ [(TCore.mk x13_0 x13_1 x13_2 x13_3 (TType.mk x13_4_0 x13_4_1 x13_4_2) x13_5 x13_6 x13_7 x13_8)]), (v8 + 1), h, by omega, ⟨rfl, ⟨⟨rfl, rfl⟩, ⟨rfl, rfl⟩, ⟨rfl, rfl⟩, ⟨rfl, rfl⟩, ⟨rfl, rfl⟩, trivial⟩, ⟨_, rfl⟩, rfl⟩⟩
  · have hky92 := kgeN c11
    rw [drop_end hky92, b_sSubst_l1.eq_1] at h
    refine V_exit ?_
    show V _ _ _ _ _
    refine goL ?_
    refine V_block ?_
    show V _ _ _ _ _
    refine V_adopt 94 13 5 10 rfl rfl (by repeat constructor) (by repeat constructor) (by repeat constructor) (by repeat constructor) ?_
    show V _ _ _ _ _
    refine V_bdc 0 10 (fun z18 => ?_)
    refine V_loop3 (fun (y17 : Nat) (y15 : List TCoreArm) (v16 : Nat) => ⟨[(0, .d (.sl 4 (eBindings a0))), (3, .ptr 0 0), (4, .ptr 1 0), (5, .ptr 5 0), (7, .d (.i .i64 (y17 : Int)))], [.box [.d (.i .i64 a1_0), .d (.s a1_1), .d (.s a1_2), .d (.i .i64 a1_3), .d (.i .i64 a1_4_0), .d (.s a1_4_1), .d (.sl 3 (eTypes a1_4_2)), .d (.sl 3 (eTypes a1_5)), .d (.sl 5 (eEvidences a1_6)), .d (.sl 11 (eCores a1_7)), .d (.sl 13 (eCoreArms a1_8))], .box [.d (.i .i64 0), .d (.s []), .d (.s []), .d (.i .i64 0), .d (.i .i64 0), .d (.s []), .nilsl, .nilsl, .nilsl, .nilsl, .nilsl], .own 34 3 0 (eTypes x2_2), .own 34 3 0 (eTypes x4), .own 149 5 0 (eEvidences x6), .box [.d (.i .i64 a1_0), .d (.s a1_1), .d (.s a1_2), .d (.i .i64 a1_3), .d (.i .i64 x2_0), .d (.s x2_1), .sl 2 0, .sl 3 0, .sl 4 0, .sl 6 v8, .sl 7 v16], .own 59 11 v8 (eCores y7), .own 94 13 v16 (eCoreArms y15)], Try.f18.ntmps⟩) (fun y17 y15 v16 => b_sSubst_l2 rec_sSubst a0 (TCore.mk a1_0 a1_1 a1_2 a1_3 (TType.mk a1_4_0 a1_4_1 a1_4_2) a1_5 a1_6 a1_7 a1_8) (TType.mk x2_0 x2_1 x2_2) x4 x6 y7 (a1_8.drop y17) y15 = some r) (fun y17 y15 v16 => a1_8.length - y17) 0 [] 0 ⟨rfl, ⟨⟨rfl, rfl⟩, ⟨rfl, rfl⟩, ⟨rfl, rfl⟩, ⟨rfl, rfl⟩, ⟨rfl, rfl⟩, trivial⟩, ⟨[], rfl⟩, rfl⟩ h ?_
    rintro y17 y15 v16 h
    refine goL ?_
    refine V_cb (fun c19 => ?_) (fun c19 => ?_)
    · have hky172 := kltN c19
      obtain ⟨x20, hx20, hdx20⟩ := drop_at hky172
      rw [hdx20, b_sSubst_l2.eq_2] at h
      obtain ⟨x20_0, x20_1, ⟨x20_2_0, x20_2_1, x20_2_2, x20_2_3, ⟨x20_2_4_0, x20_2_4_1, x20_2_4_2⟩, x20_2_5, x20_2_6, x20_2_7, x20_2_8⟩⟩ := x20
      refine V_skip ?_
      show V _ _ _ _ _
      refine V_seq (V_block ?_)
      refine V_drawX (P := Try.prog) Mix.h [(0, true), (1, true), (2, true), (3, true), (4, true), (5, true), (6, true), (7, true), (9, true), (10, true), (11, true), (12, true), (13, true), (14, true), (16, true), (17, true), (18, true), (19, true), (20, true), (21, true), (22, true), (8, false), (15, false), (23, false), (24, true), (25, false), (26, false), (27, true), (28, false)] (by kernel_rfl) ?_
      refine goY ?_
      refine VY_ri rfl (QR_ixn y17 (gCoreArm hx20)) ?_
      refine goY ?_
      refine VY_ri rfl (QR_ixn y17 (gCoreArm hx20)) ?_
      refine goY ?_
      refine VY_ri rfl (QR_ixn y17 (gCoreArm hx20)) ?_
      refine goY ?_
      refine VY_l0 ?_
      obtain ⟨g21, h⟩ := gd_s h
      refine VY_ap (T := 92) g21 ?_
      obtain ⟨x22, hx22, h⟩ := bnd_s h
      obtain ⟨x22_0, x22_1, x22_2, x22_3, ⟨x22_4_0, x22_4_1, x22_4_2⟩, x22_5, x22_6, x22_7, x22_8⟩ := x22
      refine VY_co (hrec_sSubst a0 (TCore.mk x20_2_0 x20_2_1 x20_2_2 x20_2_3 (TType.mk x20_2_4_0 x20_2_4_1 x20_2_4_2) x20_2_5 x20_2_6 x20_2_7 x20_2_8) hx22) ?_
      refine goY ?_
      refine VY_l1t (T := 57) (TCoreArm.mk x20_0 ([] ++ x20_1) (TCore.mk x22_0 x22_1 x22_2 x22_3 (TType.mk x22_4_0 x22_4_1 x22_4_2) x22_5 x22_6 x22_7 x22_8)) ?_
      obtain ⟨g23, h⟩ := gd_s h
      refine VY_ap (T := 57) g23 ?_
      refine goY ?_
      refine VY_nil ?_
      refine goL ?_
      refine VO_r (QR_inc y17 (by omega)) ?_
      refine goL ?_
      exact ⟨(y17 + 1), (y15 ++ [(TCoreArm.mk x20_0 ([] ++ x20_1) (TCore.mk x22_0 x22_1 x22_2 x22_3 (TType.mk x22_4_0 x22_4_1 x22_4_2) x22_5 x22_6 x22_7 x22_8))]), (v16 + 1), h, by omega, ⟨rfl, ⟨⟨rfl, rfl⟩, ⟨rfl, rfl⟩, ⟨rfl, rfl⟩, ⟨rfl, rfl⟩, ⟨rfl, rfl⟩, trivial⟩, ⟨_, rfl⟩, rfl⟩⟩
    · have hky172 := kgeN c19
      rw [drop_end hky172, b_sSubst_l2.eq_1] at h
      refine V_exit ?_
      show V _ _ _ _ _
      refine goL ?_
      refine V_ret ?_
      replace h := Option.some.inj h
      subst h
      exact R_rO
def m_sSubst : Nat → (List TBinding) → TCore → Option (TCore)
  | 0, _, _ => none
  | n + 1, x0, x1 => b_sSubst (m_sSubst n) x0 x1
theorem s_sSubst : ∀ (n : Nat) (x0 : List TBinding) (x1 : TCore) {r : TCore}, m_sSubst n x0 x1 = some r → SpecO Try.prog 18 [.d (.sl 4 (eBindings x0)), .d (eCore x1)] [34, 34, 149, 59, 94] [eCore r] := by
  intro n
  induction n with
  | zero => intro x0 x1 r h; cases h
  | succ n ih => intro x0 x1 r h; exact w_sSubst ih x0 x1 h
/-! ### substitution in core expressions, by hand -/
mutual
def csz : TCore → Nat
  | ⟨_, _, _, _, _, _, _, ls, ms⟩ => 1 + (cszs ls + czas ms)
def cszs : List TCore → Nat
  | [] => 0
  | a :: l => csz a + cszs l
def cza : TCoreArm → Nat
  | ⟨_, _, b⟩ => csz b
def czas : List TCoreArm → Nat
  | [] => 0
  | a :: l => cza a + czas l
end
theorem csz_mem {x : TCore} : ∀ {l : List TCore}, x ∈ l → csz x ≤ cszs l
  | [], h => by simp at h
  | a :: l, h => by
    simp only [cszs]
    rcases List.mem_cons.1 h with rfl | h
    · omega
    · have := csz_mem h
      omega
theorem cza_mem {x : TCoreArm} : ∀ {l : List TCoreArm}, x ∈ l → cza x ≤ czas l
  | [], h => by simp at h
  | a :: l, h => by
    simp only [czas]
    rcases List.mem_cons.1 h with rfl | h
    · omega
    · have := cza_mem h
      omega
theorem csz_pos (t : TCore) : 1 ≤ csz t := by cases t; simp only [csz]; omega
mutual
def cokB : TCore → Bool
  | ⟨_, _, _, _, ty, tas, evs, ls, ms⟩ => decide (tok ty) && (decide (tsok tas) && (decide (esok evs) && (decide (ls.length ≤ 4294967296) && (decide (ms.length ≤ 4294967296) && (cokBs ls && aokBs ms)))))
def cokBs : List TCore → Bool
  | [] => true
  | a :: l => cokB a && cokBs l
def aokB : TCoreArm → Bool
  | ⟨_, vs, b⟩ => decide (vs.length ≤ 4294967296) && cokB b
def aokBs : List TCoreArm → Bool
  | [] => true
  | a :: l => aokB a && aokBs l
end
def cok (t : TCore) : Prop := cokB t = true
instance (t : TCore) : Decidable (cok t) := inferInstanceAs (Decidable (_ = true))
theorem cokBs_iff : ∀ {l : List TCore}, cokBs l = true ↔ ∀ x ∈ l, cok x
  | [] => by simp [cokBs]
  | a :: l => by simp [cokBs, cokBs_iff (l := l), cok]
theorem aokBs_iff : ∀ {l : List TCoreArm}, aokBs l = true ↔ ∀ x ∈ l, aokB x = true
  | [] => by simp [aokBs]
  | a :: l => by simp [aokBs, aokBs_iff (l := l)]
theorem cok_iff {k n : Int} {t nm : List UInt8} {ty : TType} {tas : List TType} {evs : List TEvidence} {ls : List TCore} {ms : List TCoreArm} : cok ⟨k, t, nm, n, ty, tas, evs, ls, ms⟩ ↔ tok ty ∧ tsok tas ∧ esok evs ∧ ls.length ≤ 4294967296 ∧ ms.length ≤ 4294967296 ∧ (∀ x ∈ ls, cok x) ∧ ∀ x ∈ ms, aokB x = true := by
  unfold cok
  simp only [cokB, Bool.and_eq_true, decide_eq_true_eq, cokBs_iff, aokBs_iff]
  rfl
theorem aok_iff {x : TCoreArm} : aokB x = true ↔ x.vars.length ≤ 4294967296 ∧ cok x.body := by
  obtain ⟨c, vs, b⟩ := x
  simp only [aokB, Bool.and_eq_true, decide_eq_true_eq]
  rfl
mutual
def sbc (l : List TBinding) : TCore → TCore
  | ⟨k, t, nm, n, ty, tas, evs, ls, ms⟩ => ⟨k, t, nm, n, apT l ty, apTs l tas, evs, sbcs l ls, sbas l ms⟩
def sbcs (l : List TBinding) : List TCore → List TCore
  | [] => []
  | a :: ls => sbc l a :: sbcs l ls
def sba (l : List TBinding) : TCoreArm → TCoreArm
  | ⟨c, vs, b⟩ => ⟨c, vs, sbc l b⟩
def sbas (l : List TBinding) : List TCoreArm → List TCoreArm
  | [] => []
  | a :: ls => sba l a :: sbas l ls
end
theorem sbcs_map (l : List TBinding) : ∀ ls : List TCore, sbcs l ls = ls.map (sbc l)
  | [] => rfl
  | a :: ls => by simp only [sbcs, List.map_cons, sbcs_map l ls]
theorem sbas_map (l : List TBinding) : ∀ ls : List TCoreArm, sbas l ls = ls.map (sba l)
  | [] => rfl
  | a :: ls => by simp only [sbas, List.map_cons, sbas_map l ls]
theorem sba_eta (l : List TBinding) (x : TCoreArm) : TCoreArm.mk x.constructor x.vars (sbc l x.body) = sba l x := by cases x; rfl
section
variable {rec : List TBinding → TCore → Option TCore} {l : List TBinding} (hl : bok l)
include hl
theorem subst1_eq {t : TType} (h : tok t) : b_subst1 l t = some (apT l t) := by
  unfold b_subst1
  rw [gd_eq ⟨hl, h⟩]
  rfl
theorem mapCore_l1_eq (e : TCore) (x1 : TType) : ∀ (xs y : List TType), (∀ x ∈ xs, tok x) → y.length + xs.length ≤ 4294967296 → b_mapCore_l1 rec l e x1 xs y = b_mapCore_l2 rec l e x1 (y ++ xs.map (apT l)) e.evidence []
  | [], y, _, _ => by simp [b_mapCore_l1]
  | x :: xs, y, h1, h2 => by
    simp only [b_mapCore_l1, subst1_eq hl (h1 x (by simp)), bnd]
    simp only [List.length_cons] at h2
    rw [gd_eq (by simp only [List.length_cons, List.length_nil]; omega), mapCore_l1_eq e x1 xs _ (fun z hz => h1 z (by simp [hz])) (by simp only [List.length_append, List.length_cons, List.length_nil]; omega)]
    simp
omit hl
theorem mapCore_l2_eq (e : TCore) (x1 : TType) (y2 : List TType) : ∀ (xs y : List TEvidence), (∀ x ∈ xs, eok x) → y.length + xs.length ≤ 4294967296 → b_mapCore_l2 rec l e x1 y2 xs y = b_mapCore_l3 rec l e x1 y2 (y ++ xs) e.args []
  | [], y, _, _ => by simp [b_mapCore_l2]
  | x :: xs, y, h1, h2 => by
    simp only [b_mapCore_l2, lt_, idE]
    simp only [List.length_cons] at h2
    rw [gd_eq (h1 x (by simp)), gd_eq (by simp only [List.length_cons, List.length_nil]; omega), mapCore_l2_eq e x1 y2 xs _ (fun z hz => h1 z (by simp [hz])) (by simp only [List.length_append, List.length_cons, List.length_nil]; omega)]
    simp
theorem mapCore_l3_eq (e : TCore) (x1 : TType) (y2 : List TType) (y10 : List TEvidence) : ∀ (xs y : List TCore), (∀ x ∈ xs, rec l x = some (sbc l x)) → y.length + xs.length ≤ 4294967296 → b_mapCore_l3 rec l e x1 y2 y10 xs y = b_mapCore_l4 rec l e x1 y2 y10 (y ++ xs.map (sbc l)) e.arms []
  | [], y, _, _ => by simp [b_mapCore_l3]
  | x :: xs, y, h1, h2 => by
    simp only [b_mapCore_l3, h1 x (by simp), bnd]
    simp only [List.length_cons] at h2
    rw [gd_eq (by simp only [List.length_cons, List.length_nil]; omega), mapCore_l3_eq e x1 y2 y10 xs _ (fun z hz => h1 z (by simp [hz])) (by simp only [List.length_append, List.length_cons, List.length_nil]; omega)]
    simp
theorem mapCore_l4_eq (e : TCore) (x1 : TType) (y2 : List TType) (y10 : List TEvidence) (y19 : List TCore) : ∀ (xs y : List TCoreArm), (∀ x ∈ xs, x.vars.length ≤ 4294967296 ∧ rec l x.body = some (sbc l x.body)) → y.length + xs.length ≤ 4294967296 → b_mapCore_l4 rec l e x1 y2 y10 y19 xs y = some (TCore.mk e.kind e.trait e.name e.n x1 y2 y10 y19 (y ++ xs.map (sba l)))
  | [], y, _, _ => by simp [b_mapCore_l4]
  | x :: xs, y, h1, h2 => by
    obtain ⟨q1, q2⟩ := h1 x (by simp)
    simp only [b_mapCore_l4, b_copyNames]
    rw [gd_eq q1]
    simp only [bnd, q2, sba_eta]
    simp only [List.length_cons] at h2
    rw [gd_eq (by simp only [List.length_cons, List.length_nil]; omega), mapCore_l4_eq e x1 y2 y10 y19 xs _ (fun z hz => h1 z (by simp [hz])) (by simp only [List.length_append, List.length_cons, List.length_nil]; omega)]
    simp
theorem sSubst_l1_eq (e : TCore) (x2 : TType) (x4 : List TType) (x6 : List TEvidence) : ∀ (xs y : List TCore), (∀ x ∈ xs, rec l x = some (sbc l x)) → y.length + xs.length ≤ 4294967296 → b_sSubst_l1 rec l e x2 x4 x6 xs y = b_sSubst_l2 rec l e x2 x4 x6 (y ++ xs.map (sbc l)) e.arms []
  | [], y, _, _ => by simp [b_sSubst_l1]
  | x :: xs, y, h1, h2 => by
    simp only [b_sSubst_l1, h1 x (by simp), bnd]
    simp only [List.length_cons] at h2
    rw [gd_eq (by simp only [List.length_cons, List.length_nil]; omega), sSubst_l1_eq e x2 x4 x6 xs _ (fun z hz => h1 z (by simp [hz])) (by simp only [List.length_append, List.length_cons, List.length_nil]; omega)]
    simp
theorem sSubst_l2_eq (e : TCore) (x2 : TType) (x4 : List TType) (x6 : List TEvidence) (y7 : List TCore) : ∀ (xs y : List TCoreArm), (∀ x ∈ xs, x.vars.length ≤ 4294967296 ∧ rec l x.body = some (sbc l x.body)) → y.length + xs.length ≤ 4294967296 → b_sSubst_l2 rec l e x2 x4 x6 y7 xs y = some (TCore.mk e.kind e.trait e.name e.n x2 x4 x6 y7 (y ++ xs.map (sba l)))
  | [], y, _, _ => by simp [b_sSubst_l2]
  | x :: xs, y, h1, h2 => by
    obtain ⟨q1, q2⟩ := h1 x (by simp)
    simp only [b_sSubst_l2, List.nil_append]
    simp only [List.length_cons] at h2
    rw [gd_eq (by simpa using q1)]
    simp only [bnd, q2, sba_eta]
    rw [gd_eq (by simp only [List.length_cons, List.length_nil]; omega), sSubst_l2_eq e x2 x4 x6 y7 xs _ (fun z hz => h1 z (by simp [hz])) (by simp only [List.length_append, List.length_cons, List.length_nil]; omega)]
    simp
end
theorem mapCore_eq : ∀ (n : Nat) (l : List TBinding) (t : TCore), bok l → cok t → csz t ≤ n → m_mapCore n l t = some (sbc l t)
  | 0, l, t, _, _, h => by have := csz_pos t; omega
  | n + 1, l, ⟨k, t, nm, i, ty, tas, evs, ls, ms⟩, hl, ht, h => by
    obtain ⟨h1, h2, h3, h4, h5, h6, h7⟩ := cok_iff.1 ht
    simp only [csz] at h
    simp only [m_mapCore, b_mapCore, subst1_eq hl h1, bnd]
    rw [mapCore_l1_eq hl _ _ tas [] (tall_iff.1 h2.2) (by simpa using h2.1), mapCore_l2_eq _ _ _ evs [] (eall_iff.1 h3.2) (by simpa using h3.1),
      mapCore_l3_eq _ _ _ _ ls [] (fun x hx => mapCore_eq n l x hl (h6 x hx) (by have := csz_mem hx; omega)) (by simpa using h4),
      mapCore_l4_eq _ _ _ _ _ ms [] (fun x hx => by
        obtain ⟨q1, q2⟩ := aok_iff.1 (h7 x hx)
        refine ⟨q1, mapCore_eq n l x.body hl q2 ?_⟩
        have := cza_mem hx
        obtain ⟨c, vs, b⟩ := x
        simp only [cza] at this
        show csz b ≤ n
        omega) (by simpa using h5)]
    simp only [List.nil_append, sbc, sbcs_map, sbas_map, apTs_map]
theorem sSubst_eq : ∀ (n : Nat) (l : List TBinding) (t : TCore), bok l → cok t → csz t ≤ n → m_sSubst n l t = some (sbc l t)
  | 0, l, t, _, _, h => by have := csz_pos t; omega
  | n + 1, l, ⟨k, t, nm, i, ty, tas, evs, ls, ms⟩, hl, ht, h => by
    obtain ⟨h1, h2, h3, h4, h5, h6, h7⟩ := cok_iff.1 ht
    simp only [csz] at h
    simp only [m_sSubst, b_sSubst, lt_, idEs]
    rw [gd_eq ⟨hl, h1⟩, gd_eq ⟨hl, h2⟩, gd_eq h3,
      sSubst_l1_eq _ _ _ _ ls [] (fun x hx => sSubst_eq n l x hl (h6 x hx) (by have := csz_mem hx; omega)) (by simpa using h4),
      sSubst_l2_eq _ _ _ _ _ ms [] (fun x hx => by
        obtain ⟨q1, q2⟩ := aok_iff.1 (h7 x hx)
        refine ⟨q1, sSubst_eq n l x.body hl q2 ?_⟩
        have := cza_mem hx
        obtain ⟨c, vs, b⟩ := x
        simp only [cza] at this
        show csz b ≤ n
        omega) (by simpa using h5)]
    simp only [List.nil_append, sbc, sbcs_map, sbas_map]

theorem t_mapCore (x0 : List TBinding) (x1 : TCore) (h : bok x0 ∧ cok x1) : Go.Eng.Spec Try.prog 55 [.d (eCore x1), .fn 56 [.ptr 0 0], .fn 58 []] [.box [.d (.sl 4 (eBindings x0))]] (fun sv Lo => sv = .ag [.d (.i .i64 (sbc x0 x1).kind), .d (.s (sbc x0 x1).trait), .d (.s (sbc x0 x1).name), .d (.i .i64 (sbc x0 x1).n), .d (.i .i64 (sbc x0 x1).type_.kind), .d (.s (sbc x0 x1).type_.name), .sl 1 0, .sl 2 0, .sl 3 0, .sl 4 0, .sl 5 0] ∧ Lo = [.box [.d (.sl 4 (eBindings x0))], .own 34 3 0 (eTypes (sbc x0 x1).type_.args), .own 34 3 0 (eTypes (sbc x0 x1).typeArgs), .own 149 5 0 (eEvidences (sbc x0 x1).evidence), .own 59 11 0 (eCores (sbc x0 x1).args), .own 94 13 0 (eCoreArms (sbc x0 x1).arms)]) := s_mapCore (csz x1) x0 x1 (mapCore_eq _ _ _ h.1 h.2 (Nat.le_refl _))
theorem t_sSubst (x0 : List TBinding) (x1 : TCore) (h : bok x0 ∧ cok x1) : SpecO Try.prog 18 [.d (.sl 4 (eBindings x0)), .d (eCore x1)] [34, 34, 149, 59, 94] [eCore (sbc x0 x1)] := s_sSubst (csz x1) x0 x1 (sSubst_eq _ _ _ h.1 h.2 (Nat.le_refl _))
def b_iSubst (a0 : List TBinding) (a1 : TCore) : Option (TCore) :=
gd (bok a0 ∧ cok a1) (lt_ (sbc a0 a1) fun x1 =>
(some x1))
set_option maxHeartbeats 4000000 in
theorem w_iSubst (a0 : List TBinding) (a1 : TCore) {r : TCore} (h : b_iSubst a0 a1 = some r) : SpecO Try.prog 21 [.d (.sl 4 (eBindings a0)), .d (eCore a1)] [34, 34, 149, 59, 94] [eCore r] := by
  obtain ⟨a1_0, a1_1, a1_2, a1_3, ⟨a1_4_0, a1_4_1, a1_4_2⟩, a1_5, a1_6, a1_7, a1_8⟩ := a1
  unfold b_iSubst at h
  refine SpecO_intro Try.func21 rfl (by kernel_rfl) rfl (by simp) fun A _ => ?_
  refine goL ?_
  refine VO_r (QR_fn) ?_
  obtain ⟨g2, h⟩ := gd_s h
  obtain ⟨x1, hx1, h⟩ := lt_x h
  obtain ⟨x1_0, x1_1, x1_2, x1_3, ⟨x1_4_0, x1_4_1, x1_4_2⟩, x1_5, x1_6, x1_7, x1_8⟩ := x1
  have sx1 := t_mapCore a0 (TCore.mk a1_0 a1_1 a1_2 a1_3 (TType.mk a1_4_0 a1_4_1 a1_4_2) a1_5 a1_6 a1_7 a1_8) g2
  rw [hx1] at sx1
  refine VO_cG [0] (sx1) ?_
  rintro _ _ ⟨rfl, rfl⟩
  show VO _ _ _ _ ⟨(_, .ag [.d (.i .i64 x1_0), .d (.s x1_1), .d (.s x1_2), .d (.i .i64 x1_3), .d (.i .i64 x1_4_0), .d (.s x1_4_1), .sl 3 0, .sl 4 0, .sl 5 0, .sl 6 0, .sl 7 0]) :: _, [.box [.d (.sl 4 (eBindings a0))], .box [.d (.i .i64 a1_0), .d (.s a1_1), .d (.s a1_2), .d (.i .i64 a1_3), .d (.i .i64 a1_4_0), .d (.s a1_4_1), .d (.sl 3 (eTypes a1_4_2)), .d (.sl 3 (eTypes a1_5)), .d (.sl 5 (eEvidences a1_6)), .d (.sl 11 (eCores a1_7)), .d (.sl 13 (eCoreArms a1_8))], .box [.d (.i .i64 0), .d (.s []), .d (.s []), .d (.i .i64 0), .d (.i .i64 0), .d (.s []), .nilsl, .nilsl, .nilsl, .nilsl, .nilsl], .own 34 3 0 (eTypes x1_4_2), .own 34 3 0 (eTypes x1_5), .own 149 5 0 (eEvidences x1_6), .own 59 11 0 (eCores x1_7), .own 94 13 0 (eCoreArms x1_8)], _⟩ _
  refine goL ?_
  refine V_ret ?_
  replace h := Option.some.inj h
  subst h
  exact R_rO
/-! ### the law of SubstituteCore -/
def cwt (t : TCore) : Prop := wt (.st 21) (eCore t)
def awt (t : TCoreArm) : Prop := wt (.st 20) (eCoreArm t)
theorem cwt_iff {k n : Int} {t nm : List UInt8} {ty : TType} {tas : List TType} {evs : List TEvidence} {ls : List TCore} {ms : List TCoreArm} : cwt ⟨k, t, nm, n, ty, tas, evs, ls, ms⟩ ↔ inRange k ∧ t.length ≤ big ∧ nm.length ≤ big ∧ inRange n ∧ twt ty ∧ (tas.length ≤ big ∧ ∀ x ∈ tas, twt x) ∧ wt (.sl (.st 18)) (.sl 5 (eEvidences evs)) ∧ (ls.length ≤ big ∧ ∀ x ∈ ls, cwt x) ∧ (ms.length ≤ big ∧ ∀ x ∈ ms, awt x) := by
  unfold cwt twt awt
  simp only [eCore, wt]
  have : flds 21 = [.int, .str, .str, .int, .st 1, .sl (.st 1), .sl (.st 18), .sl (.st 21), .sl (.st 20)] := rfl
  rw [this]
  simp only [wts, wt, wta_iff, eTypes_map, show eCores ls = ls.map eCore from Enc.h ls, show eCoreArms ms = ms.map eCoreArm from Enc.h ms, List.length_map, List.mem_map, true_and, and_true]
  constructor
  · rintro ⟨h1, h2, h3, h4, h5, ⟨_, h6, h7⟩, h8, ⟨_, h9, h10⟩, _, h11, h12⟩
    exact ⟨h1, h2, h3, h4, h5, ⟨h6, fun x hx => h7 _ ⟨x, hx, rfl⟩⟩, h8, ⟨h9, fun x hx => h10 _ ⟨x, hx, rfl⟩⟩, h11, fun x hx => h12 _ ⟨x, hx, rfl⟩⟩
  · rintro ⟨h1, h2, h3, h4, h5, ⟨h6, h7⟩, h8, ⟨h9, h10⟩, h11, h12⟩
    exact ⟨h1, h2, h3, h4, h5, ⟨rfl, h6, by rintro u ⟨x, hx, rfl⟩; exact h7 x hx⟩, h8, ⟨rfl, h9, by rintro u ⟨x, hx, rfl⟩; exact h10 x hx⟩, rfl, h11, by rintro u ⟨x, hx, rfl⟩; exact h12 x hx⟩
theorem awt_iff {c : List UInt8} {vs : List (List UInt8)} {b : TCore} : awt ⟨c, vs, b⟩ ↔ c.length ≤ big ∧ wt (.sl .str) (.sl 1 (eStrs vs)) ∧ cwt b := by
  unfold awt cwt
  simp only [eCoreArm, wt]
  have : flds 20 = [.str, .sl .str, .st 21] := rfl
  rw [this]
  simp only [wts, and_true]
  rfl
section
variable {l : List TBinding} (hl : ∀ b ∈ l, twt b.type_)
include hl
mutual
theorem sbc_cwt : ∀ (t : TCore), cwt t → cwt (sbc l t)
  | ⟨k, t, nm, i, ty, tas, evs, ls, ms⟩, h => by
    obtain ⟨h1, h2, h3, h4, h5, ⟨h6, h7⟩, h8, ⟨h9, h10⟩, h11, h12⟩ := cwt_iff.1 h
    simp only [sbc]
    exact cwt_iff.2 ⟨h1, h2, h3, h4, apT_twt hl ty h5, ⟨by rw [apTs_len]; exact h6, apTs_twt hl tas h7⟩, h8, ⟨by rw [sbcs_map, List.length_map]; exact h9, sbcs_cwt ls h10⟩, by rw [sbas_map, List.length_map]; exact h11, sbas_awt ms h12⟩
theorem sbcs_cwt : ∀ (ls : List TCore), (∀ x ∈ ls, cwt x) → ∀ x ∈ sbcs l ls, cwt x
  | [], _, x, hx => by simp [sbcs] at hx
  | a :: ls, h, x, hx => by
    simp only [sbcs, List.mem_cons] at hx
    rcases hx with rfl | hx
    · exact sbc_cwt a (h a (by simp))
    · exact sbcs_cwt ls (fun y hy => h y (by simp [hy])) x hx
theorem sba_awt : ∀ (t : TCoreArm), awt t → awt (sba l t)
  | ⟨c, vs, b⟩, h => by
    obtain ⟨h1, h2, h3⟩ := awt_iff.1 h
    simp only [sba]
    exact awt_iff.2 ⟨h1, h2, sbc_cwt b h3⟩
theorem sbas_awt : ∀ (ls : List TCoreArm), (∀ x ∈ ls, awt x) → ∀ x ∈ sbas l ls, awt x
  | [], _, x, hx => by simp [sbas] at hx
  | a :: ls, h, x, hx => by
    simp only [sbas, List.mem_cons] at hx
    rcases hx with rfl | hx
    · exact sba_awt a (h a (by simp))
    · exact sbas_awt ls (fun y hy => h y (by simp [hy])) x hx
end
end
section
variable {B : Nat} {l : List TBinding} (hl : ∀ b ∈ l, W (eType b.type_) ≤ B)
include hl
theorem ap1_W (t : TType) : W (eType (apT l t)) ≤ W (eType t) * (B + 1) + B := by
  have h1 := apT_W hl t
  have h2 : tnd t * B ≤ (1 + W (eType t)) * B := Nat.mul_le_mul_right B (tnd_W t)
  rw [Nat.add_mul, Nat.one_mul] at h2
  rw [Nat.mul_add, Nat.mul_one]
  omega
theorem aps_W (ts : List TType) : ts.length + Ws (eTypes (apTs l ts)) ≤ (ts.length + Ws (eTypes ts)) * (B + 1) := by
  have h1 := apTs_W hl ts
  have h2 : tnds ts * B ≤ (ts.length + Ws (eTypes ts)) * B := Nat.mul_le_mul_right B (tnds_W ts)
  rw [Nat.mul_add, Nat.mul_one]
  omega
mutual
theorem sbc_W : ∀ (t : TCore), W (eCore (sbc l t)) ≤ W (eCore t) * (B + 1) + csz t * B
  | ⟨k, t, nm, i, ty, tas, evs, ls, ms⟩ => by
    have h1 := ap1_W hl ty
    have h2 := aps_W hl tas
    have h3 := sbcs_W ls
    have h4 := sbas_W ms
    have e1 : (eTypes (apTs l tas)).length = tas.length := by rw [eTypes_map, List.length_map, apTs_len]
    have e2 : (eTypes tas).length = tas.length := Enc.len tas
    have e3 : (eCores (sbcs l ls)).length = ls.length := by rw [show eCores (sbcs l ls) = _ from Enc.h _, List.length_map, sbcs_map, List.length_map]
    have e4 : (eCores ls).length = ls.length := Enc.len ls
    have e5 : (eCoreArms (sbas l ms)).length = ms.length := by rw [show eCoreArms (sbas l ms) = _ from Enc.h _, List.length_map, sbas_map, List.length_map]
    have e6 : (eCoreArms ms).length = ms.length := Enc.len ms
    simp only [sbc, eCore, W, Ws, csz, e1, e2, e3, e4, e5, e6, Nat.add_mul, Nat.mul_add, Nat.mul_one, Nat.one_mul, Nat.add_zero] at *
    omega
theorem sbcs_W : ∀ (ls : List TCore), ls.length + Ws (eCores (sbcs l ls)) ≤ (ls.length + Ws (eCores ls)) * (B + 1) + cszs ls * B
  | [] => by simp [sbcs, eCores, cszs, Ws]
  | a :: ls => by
    have h1 := sbc_W a
    have h2 := sbcs_W ls
    simp only [sbcs, eCores, Ws, cszs, List.length_cons, Nat.add_mul, Nat.mul_add, Nat.mul_one, Nat.one_mul] at *
    omega
theorem sba_W : ∀ (t : TCoreArm), W (eCoreArm (sba l t)) ≤ W (eCoreArm t) * (B + 1) + cza t * B
  | ⟨c, vs, b⟩ => by
    have h1 := sbc_W b
    simp only [sba, eCoreArm, W, Ws, cza, Nat.add_mul, Nat.mul_add, Nat.mul_one, Nat.one_mul, Nat.add_zero] at *
    omega
theorem sbas_W : ∀ (ls : List TCoreArm), ls.length + Ws (eCoreArms (sbas l ls)) ≤ (ls.length + Ws (eCoreArms ls)) * (B + 1) + czas ls * B
  | [] => by simp [sbas, eCoreArms, czas, Ws]
  | a :: ls => by
    have h1 := sba_W a
    have h2 := sbas_W ls
    simp only [sbas, eCoreArms, Ws, czas, List.length_cons, Nat.add_mul, Nat.mul_add, Nat.mul_one, Nat.one_mul] at *
    omega
end
end
mutual
theorem csz_W : ∀ (t : TCore), csz t ≤ 1 + W (eCore t)
  | ⟨k, t, nm, i, ty, tas, evs, ls, ms⟩ => by
    have h3 := cszs_W ls
    have h4 := czas_W ms
    have e4 : (eCores ls).length = ls.length := Enc.len ls
    have e6 : (eCoreArms ms).length = ms.length := Enc.len ms
    simp only [eCore, W, Ws, csz]
    omega
theorem cszs_W : ∀ (ls : List TCore), cszs ls ≤ ls.length + Ws (eCores ls)
  | [] => by simp [cszs]
  | a :: ls => by
    have h1 := csz_W a
    have h2 := cszs_W ls
    simp only [eCores, Ws, cszs, List.length_cons]
    omega
theorem cza_W : ∀ (t : TCoreArm), cza t ≤ 1 + W (eCoreArm t)
  | ⟨c, vs, b⟩ => by
    have h1 := csz_W b
    simp only [eCoreArm, W, Ws, cza]
    omega
theorem czas_W : ∀ (ls : List TCoreArm), czas ls ≤ ls.length + Ws (eCoreArms ls)
  | [] => by simp [czas]
  | a :: ls => by
    have h1 := cza_W a
    have h2 := czas_W ls
    simp only [eCoreArms, Ws, czas, List.length_cons]
    omega
end
mutual
theorem eok_W : ∀ (t : TEvidence), W (eEvidence t) ≤ 4294967296 → eok t
  | ⟨k, n, p, ts⟩, h => by
    simp only [eEvidence, W, Ws] at h
    have h2 : (eEvidences ts).length = ts.length := Enc.len ts
    simp only [eok]
    exact ⟨by omega, eall_W ts (by omega)⟩
theorem eall_W : ∀ (ts : List TEvidence), Ws (eEvidences ts) ≤ 4294967296 → eall ts
  | [], _ => by simp [eall]
  | a :: ts, h => by
    simp only [eEvidences, Ws] at h
    simp only [eall]
    exact ⟨eok_W a (by omega), eall_W ts (by omega)⟩
end
mutual
theorem cok_W : ∀ (t : TCore), W (eCore t) ≤ 4294967296 → cokB t = true
  | ⟨k, t, nm, i, ty, tas, evs, ls, ms⟩, h => by
    have e2 : (eTypes tas).length = tas.length := Enc.len tas
    have e3 : (eEvidences evs).length = evs.length := Enc.len evs
    have e4 : (eCores ls).length = ls.length := Enc.len ls
    have e6 : (eCoreArms ms).length = ms.length := Enc.len ms
    simp only [eCore, W, Ws] at h
    exact cok_iff.2 ⟨tok_W ty (by omega), ⟨by omega, tall_W tas (by omega)⟩, ⟨by omega, eall_W evs (by omega)⟩, by omega, by omega, cokBs_iff.1 (cokl_W ls (by omega)), aokBs_iff.1 (aokl_W ms (by omega))⟩
theorem cokl_W : ∀ (ls : List TCore), Ws (eCores ls) ≤ 4294967296 → cokBs ls = true
  | [], _ => rfl
  | a :: ls, h => by
    simp only [eCores, Ws] at h
    simp only [cokBs, cok_W a (by omega), cokl_W ls (by omega), Bool.and_self]
theorem aok_W : ∀ (t : TCoreArm), W (eCoreArm t) ≤ 4294967296 → aokB t = true
  | ⟨c, vs, b⟩, h => by
    have e2 : (eStrs vs).length = vs.length := Enc.len vs
    simp only [eCoreArm, W, Ws] at h
    exact aok_iff.2 ⟨by show vs.length ≤ _; omega, cok_W b (by omega)⟩
theorem aokl_W : ∀ (ls : List TCoreArm), Ws (eCoreArms ls) ≤ 4294967296 → aokBs ls = true
  | [], _ => rfl
  | a :: ls, h => by
    simp only [eCoreArms, Ws] at h
    simp only [aokBs, aok_W a (by omega), aokl_W ls (by omega), Bool.and_self]
end
theorem bind_W {l : List TBinding} {b : TBinding} (hb : b ∈ l) : W (eType b.type_) ≤ Ws (eBindings l) := by
  have h1 : eBinding b ∈ eBindings l := by
    rw [show eBindings l = l.map eBinding from Enc.h l]
    exact List.mem_map_of_mem hb
  have h2 := W_le_of_mem h1
  obtain ⟨v, t⟩ := b
  simp only [eBinding, W, Ws] at h2
  show W (eType t) ≤ _
  omega
theorem bind_wt {l : List TBinding} (h : ∀ x ∈ eBindings l, wt (.st 2) x) : ∀ b ∈ l, twt b.type_ := by
  intro b hb
  have h1 : eBinding b ∈ eBindings l := by
    rw [show eBindings l = l.map eBinding from Enc.h l]
    exact List.mem_map_of_mem hb
  have h3 := h _ h1
  obtain ⟨v, tt⟩ := b
  obtain ⟨g0, g1, e2, _, h4⟩ := inv_Binding h3
  simp only [eBinding, U.st.injEq, List.cons.injEq, and_true] at e2
  obtain ⟨_, rfl⟩ := e2
  exact h4
theorem bothSc {us : List U} {v : U} (h : us.length ≤ big ∧ ∀ x ∈ us, wt (.st 2) x) (h2 : wt (.st 21) v) : ∃ r0, wt (.st 21) r0 ∧ (W (.sl 4 us) ≤ 1048576 → W v ≤ 1048576 → SpecP Try.prog 18 [.d (.sl 4 us), .d v] [r0] ∧ SpecO Try.prog 21 [.d (.sl 4 us), .d v] [34, 34, 149, 59, 94] [r0] ∧ W r0 ≤ 1125899906842624) := by
  obtain ⟨l, rfl⟩ := ofs (e := eBinding) (fun a ha => ofBinding a (h.2 a ha))
  obtain ⟨t, rfl⟩ := ofCore v h2
  refine ⟨eCore (sbc l t), sbc_cwt (bind_wt h.2) t h2, fun hw hw2 => ?_⟩
  have hW : W (.sl 4 (eBindings l)) = (eBindings l).length + Ws (eBindings l) := rfl
  have hB : ∀ b ∈ l, W (eType b.type_) ≤ 1048576 := by
    intro b hb
    have h1 := bind_W hb
    omega
  have h1 : bok l := fun b hb => tok_W _ (by have := hB b hb; omega)
  have h3 : cok t := cok_W t (by omega)
  refine ⟨(t_sSubst l t ⟨h1, h3⟩).p, w_iSubst l t (r := sbc l t) ?_, ?_⟩
  · unfold b_iSubst
    rw [gd_eq ⟨h1, h3⟩]
    rfl
  · have h4 := sbc_W hB t
    have h5 := csz_W t
    omega

end Go.Proofs.Ythojhakapbfbiaa
