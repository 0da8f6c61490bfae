/- Un4. Written by a program of mine (aw.py). -/
import Derived.Test.YtiaghdodeinecaaEng43
import Derived.Test.YtiaghdodeinecaaUn3
import Derived.Test.YtiaghdodeinecaaUn2
set_option linter.unusedVariables false
set_option linter.unusedSimpArgs false
set_option linter.unusedSectionVars false
namespace Go.Proofs.Ytiaghdodeinecaa
open Go Go.Eng
attribute [local irreducible] V VO VQ VY Quiet QR SpecP SpecO Rng PostP PostO PostG
def b_iUnify_l2 (x9 : TType) (x11 : TType) (k2_0 : (List TBinding) → Option (Bool × List TBinding)) : Nat → Nat → (List TBinding) → Option (Bool × List TBinding)
  | 0, y21, y19 => (k2_0 y19)
  | m24 + 1, y21, y19 => bnd (at? y19 (y21 : Int)) fun x25 =>
gd (bok [(TBinding.mk x11.name x9)] ∧ tok x25.type_) (lt_ (apT [(TBinding.mk x11.name x9)] x25.type_) fun x27 =>
b_iUnify_l2 x9 x11 k2_0 m24 (y21 + 1) (y19.set y21 (TBinding.mk x25.var_ x27)))
def b_iUnify_l3 (x9 : TType) (x11 : TType) (k3_0 : (List TBinding) → Option (Bool × List TBinding)) : Nat → Nat → (List TBinding) → Option (Bool × List TBinding)
  | 0, y40, y38 => (k3_0 y38)
  | m43 + 1, y40, y38 => bnd (at? y38 (y40 : Int)) fun x44 =>
gd (bok [(TBinding.mk x9.name x11)] ∧ tok x44.type_) (lt_ (apT [(TBinding.mk x9.name x11)] x44.type_) fun x46 =>
b_iUnify_l3 x9 x11 k3_0 m43 (y40 + 1) (y38.set y40 (TBinding.mk x44.var_ x46)))
def b_iUnify_l1 (rec_iUnify : (List TBinding) → (List TType) → (List TType) → Option (Bool × List TBinding)) (bs : List TType) : List TType → Nat → (List TBinding) → Option (Bool × List TBinding)
  | [], y3, y1 => (some (true, y1))
  | x6 :: xs, y3, y1 => bnd (at? bs (y3 : Int)) fun x7 =>
gd (bok y1 ∧ tok x6) (lt_ (apT y1 x6) fun x9 =>
gd (bok y1 ∧ tok x7) (lt_ (apT y1 x7) fun x11 =>
(cnd (teq x9 x11) (
b_iUnify_l1 rec_iUnify bs xs (y3 + 1) y1) (
(cnd (decide ((IntKind.i64.wrap ((tsz x9) + (tsz x11))) > 4000)) (
(some (false, []))) (
lt_ ((cnd (x9.kind != 1) ((x11.kind == 1)) (false))) fun b14 =>
(cnd b14 (
(cnd (x11.kind == 1) (
(cnd (b_iOccurs x11.name x9) (
(some (false, []))) (
b_iUnify_l2 x9 x11 (fun y19 => gd (y19.length + [(TBinding.mk x11.name x9)].length ≤ 4294967296) (
b_iUnify_l1 rec_iUnify bs xs (y3 + 1) (y19 ++ [(TBinding.mk x11.name x9)]))) y1.length 0 y1))) (
lt_ ((cnd (x11.kind != x9.kind) (true) ((cnd (!(x11.name == x9.name)) (true) (((x11.args.length : Int) != (x9.args.length : Int))))))) fun b29 =>
(cnd b29 (
(some (false, []))) (
bnd (rec_iUnify y1 x11.args x9.args) fun x33 =>
(cnd (!x33.1) (
(some (false, []))) (
b_iUnify_l1 rec_iUnify bs xs (y3 + 1) x33.2))))))) (
(cnd (x9.kind == 1) (
(cnd (b_iOccurs x9.name x11) (
(some (false, []))) (
b_iUnify_l3 x9 x11 (fun y38 => gd (y38.length + [(TBinding.mk x9.name x11)].length ≤ 4294967296) (
b_iUnify_l1 rec_iUnify bs xs (y3 + 1) (y38 ++ [(TBinding.mk x9.name x11)]))) y1.length 0 y1))) (
lt_ ((cnd (x9.kind != x11.kind) (true) ((cnd (!(x9.name == x11.name)) (true) (((x9.args.length : Int) != (x11.args.length : Int))))))) fun b48 =>
(cnd b48 (
(some (false, []))) (
bnd (rec_iUnify y1 x9.args x11.args) fun x52 =>
(cnd (!x52.1) (
(some (false, []))) (
b_iUnify_l1 rec_iUnify bs xs (y3 + 1) x52.2))))))))))))))
def b_iUnify (rec_iUnify : (List TBinding) → (List TType) → (List TType) → Option (Bool × List TBinding)) (l0 : List TBinding) (as_ : List TType) (bs : List TType) : Option (Bool × List TBinding) :=
b_iUnify_l1 rec_iUnify bs as_ 0 l0
set_option maxHeartbeats 4000000 in
theorem w_iUnify {rec_iUnify : (List TBinding) → (List TType) → (List TType) → Option (Bool × List TBinding)} (hrec_iUnify : ∀ (x0 : List TBinding) (x1 : List TType) (x2 : List TType) (w0 : Nat) {r : Bool × List TBinding}, rec_iUnify x0 x1 x2 = some r → Go.Eng.Spec Try.prog 64 [.sl 0 w0, .d (.sl 3 (eTypes x1)), .d (.sl 3 (eTypes x2))] [.arr 37 4 w0 (eBindings x0)] (fun sv Lo => ∃ v'0, sv = .tup [.sl 0 v'0, .d (.b r.1)] ∧ Lo = [.arr 37 4 v'0 (eBindings r.2)])) (l0 : List TBinding) (as_ : List TType) (bs : List TType) (v0 : Nat) {r : Bool × List TBinding} (h : b_iUnify rec_iUnify l0 as_ bs = some r) : Go.Eng.Spec Try.prog 64 [.sl 0 v0, .d (.sl 3 (eTypes as_)), .d (.sl 3 (eTypes bs))] [.arr 37 4 v0 (eBindings l0)] (fun sv Lo => ∃ v'0, sv = .tup [.sl 0 v'0, .d (.b r.1)] ∧ Lo = [.arr 37 4 v'0 (eBindings r.2)]) := by
  unfold b_iUnify at h
  refine Spec_intro 1 Try.func64 rfl (by kernel_rfl) rfl rfl fun A _ => ?_
  refine goL ?_
  refine V_block ?_
  show V _ _ _ _ _
  refine V_bd 1 (fun z4 => ?_)
  refine V_loop3 (fun (y3 : Nat) (y1 : List TBinding) (v2 : Nat) => ⟨[(0, .sl 0 v2), (1, .d (.sl 3 (eTypes as_))), (2, .d (.sl 3 (eTypes bs))), (16, .d (.i .i64 (as_.length : Int))), (17, .d (.i .i64 (y3 : Int)))], [.arr 37 4 v2 (eBindings y1)], Try.f64.ntmps⟩) (fun y3 y1 v2 => b_iUnify_l1 rec_iUnify bs (as_.drop y3) y3 y1 = some r) (fun y3 y1 v2 => as_.length - y3) 0 l0 v0 ⟨rfl, ⟨⟨rfl, rfl⟩, ⟨rfl, rfl⟩, ⟨rfl, rfl⟩, ⟨rfl, rfl⟩, ⟨rfl, rfl⟩, trivial⟩, ⟨[], rfl⟩, rfl⟩ h ?_
  rintro y3 y1 v2 h
  refine goL ?_
  refine V_seq (V_cb (fun c5 => ?_) (fun c5 => ?_))
  · have hky32 := kltN c5
    obtain ⟨x6, hx6, hdx6⟩ := drop_at hky32
    rw [hdx6, b_iUnify_l1.eq_2] at h
    obtain ⟨x6_0, x6_1, x6_2⟩ := x6
    refine V_skip ?_
    show V _ _ _ _ _
    refine V_seq (V_block ?_)
    refine goNL ?_
    obtain ⟨x7, hx7, h⟩ := bnd_s h
    rw [at_nat] at hx7
    obtain ⟨x7_0, x7_1, x7_2⟩ := x7
    obtain ⟨g8, h⟩ := gd_s h
    obtain ⟨x9, hx9, h⟩ := lt_x h
    obtain ⟨x9_0, x9_1, x9_2⟩ := x9
    have sx9 := t_iApply y1 (TType.mk x6_0 x6_1 x6_2) g8
    rw [hx9] at sx9
    obtain ⟨g10, h⟩ := gd_s h
    obtain ⟨x11, hx11, h⟩ := lt_x h
    obtain ⟨x11_0, x11_1, x11_2⟩ := x11
    have sx11 := t_iApply y1 (TType.mk x7_0 x7_1 x7_2) g10
    rw [hx11] at sx11
    refine V_seq_drawTJ (P := Try.prog) Mix.h (.q 0 (.q 1 (.q 2 (.q 3 (.q 4 (.q 6 (.q 7 (.q 8 (.q 9 (.q 10 (.h 5 (.h 11 (.h 12 (.h 13 (.h 14 (.h 15 .nil .nil) .nil) .nil) (.h 13 (.h 12 (.h 14 (.h 15 .nil .nil) .nil) .nil) .nil)) (.h 12 (.h 11 (.h 13 (.h 14 (.h 15 .nil .nil) .nil) .nil) (.h 13 (.h 11 (.h 14 (.h 15 .nil .nil) .nil) .nil) .nil)) (.h 13 (.h 11 (.h 12 (.h 14 (.h 15 .nil .nil) .nil) .nil) (.h 12 (.h 11 (.h 14 (.h 15 .nil .nil) .nil) .nil) .nil)) .nil))) (.h 12 (.h 5 (.h 11 (.h 13 (.h 14 (.h 15 .nil .nil) .nil) .nil) (.h 13 (.h 11 (.h 14 (.h 15 .nil .nil) .nil) .nil) .nil)) (.h 13 (.h 5 (.h 11 (.h 14 (.h 15 .nil .nil) .nil) .nil) .nil) .nil)) (.h 13 (.h 5 (.h 11 (.h 12 (.h 14 (.h 15 .nil .nil) .nil) .nil) (.h 12 (.h 11 (.h 14 (.h 15 .nil .nil) .nil) .nil) .nil)) (.h 12 (.h 5 (.h 11 (.h 14 (.h 15 .nil .nil) .nil) .nil) .nil) .nil)) .nil))))))))))))) ⟨[(0, .sl 0 v2), (1, .d (.sl 3 (eTypes as_))), (2, .d (.sl 3 (eTypes bs))), (9, .ptr 3 0), (10, .ptr 4 0), (16, .d (.i .i64 (as_.length : Int))), (17, .d (.i .i64 (y3 : Int)))], [.arr 37 4 v2 (eBindings y1), .own 27 3 0 (eTypes x9_2), .own 27 3 0 (eTypes x11_2), .box [.d (.i .i64 x9_0), .d (.s x9_1), .sl 1 0], .box [.d (.i .i64 x11_0), .d (.s x11_1), .sl 2 0]], Try.f64.ntmps⟩ (by kernel_rfl) ?_ ?_
    · refine goT ?_
      refine VT_q (VY_ri rfl (QR_ixn y3 (gType hx6)) VY_e) ?_
      refine goT ?_
      refine VT_q (VY_ri rfl (QR_ixn y3 (gType hx7)) VY_e) ?_
      refine goT ?_
      refine VT_h (VY_co (sx9) VY_e) ?_ ?_
      · refine VT_h (VY_co (sx11) VY_e) ?_ ?_
        · refine VT_h (VY_h rfl (by repeat constructor) (by repeat (first | exact PfOk.nil | (apply PfOk.keep; focus ((repeat constructor); done)) | (apply PfOk.dep; focus kernel_rfl))) VY_e) ?_ ?_
          · refine goT ?_
            refine VT_nil ?_
            exact R_pk 1 [0, 1, 2, 3, 4]
          refine goT ?_
          refine VT_nil ?_
          exact R_pk 1 [0, 1, 2, 4, 3]
        refine VT_h (VY_h rfl (by repeat constructor) (by repeat (first | exact PfOk.nil | (apply PfOk.keep; focus ((repeat constructor); done)) | (apply PfOk.dep; focus kernel_rfl))) VY_e) ?_ ?_
        · refine VT_h (VY_co (sx11) VY_e) ?_ ?_
          · refine goT ?_
            refine VT_nil ?_
            exact R_pk 1 [0, 1, 3, 2, 4]
          refine goT ?_
          refine VT_h1 (VY_co (sx11) VY_e) ?_
          refine goT ?_
          refine VT_nil ?_
          exact R_pk 1 [0, 1, 4, 2, 3]
        refine goT ?_
        refine VT_h (VY_co (sx11) VY_e) ?_ ?_
        · refine goT ?_
          refine VT_nil ?_
          exact R_pk 1 [0, 1, 3, 4, 2]
        refine goT ?_
        refine VT_h1 (VY_co (sx11) VY_e) ?_
        refine goT ?_
        refine VT_nil ?_
        exact R_pk 1 [0, 1, 4, 3, 2]
      refine VT_h (VY_h rfl (by repeat constructor) (by repeat (first | exact PfOk.nil | (apply PfOk.keep; focus ((repeat constructor); done)) | (apply PfOk.dep; focus kernel_rfl))) VY_e) ?_ ?_
      · refine VT_h (VY_co (sx9) VY_e) ?_ ?_
        · refine VT_h (VY_co (sx11) VY_e) ?_ ?_
          · refine goT ?_
            refine VT_nil ?_
            exact R_pk 1 [0, 2, 3, 1, 4]
          refine goT ?_
          refine VT_h1 (VY_co (sx11) VY_e) ?_
          refine goT ?_
          refine VT_nil ?_
          exact R_pk 1 [0, 2, 4, 1, 3]
        refine goT ?_
        refine VT_h1 (VY_co (sx9) VY_e) ?_
        refine VT_h1 (VY_co (sx11) VY_e) ?_
        refine goT ?_
        refine VT_nil ?_
        exact R_pk 1 [0, 3, 4, 1, 2]
      refine goT ?_
      refine VT_h (VY_co (sx9) VY_e) ?_ ?_
      · refine VT_h (VY_co (sx11) VY_e) ?_ ?_
        · refine goT ?_
          refine VT_nil ?_
          exact R_pk 1 [0, 2, 3, 4, 1]
        refine goT ?_
        refine VT_h1 (VY_co (sx11) VY_e) ?_
        refine goT ?_
        refine VT_nil ?_
        exact R_pk 1 [0, 2, 4, 3, 1]
      refine goT ?_
      refine VT_h1 (VY_co (sx9) VY_e) ?_
      refine VT_h1 (VY_co (sx11) VY_e) ?_
      refine goT ?_
      refine VT_nil ?_
      exact R_pk 1 [0, 3, 4, 2, 1]
    refine goL ?_
    refine VO_k (Q_cb (t_iEqualType (TType.mk x9_0 x9_1 x9_2) (TType.mk x11_0 x11_1 x11_2))) ?_
    refine goL ?_
    refine V_cb (fun c12 => ?_) (fun c12 => ?_)
    · replace h := cnd_t c12 h
      refine V_exit ?_
      show V _ _ _ _ _
      refine goL ?_
      refine VO_r (QR_inc y3 (by omega)) ?_
      refine goL ?_
      exact ⟨(y3 + 1), y1, v2, h, by omega, ⟨rfl, ⟨⟨rfl, rfl⟩, ⟨rfl, rfl⟩, ⟨rfl, rfl⟩, ⟨rfl, rfl⟩, ⟨rfl, rfl⟩, trivial⟩, ⟨_, rfl⟩, rfl⟩⟩
    · replace h := cnd_f c12 h
      refine V_skip ?_
      show V _ _ _ _ _
      refine goL ?_
      refine VQ_k (Q_cb (t_iTypeSize (TType.mk x9_0 x9_1 x9_2))) ?_
      refine goL ?_
      refine VQ_k (Q_cb (t_iTypeSize (TType.mk x11_0 x11_1 x11_2))) ?_
      refine VQ_r (QR_ar) ?_
      refine goL ?_
      refine V_cb (fun c13 => ?_) (fun c13 => ?_)
      · replace h := cnd_t c13 h
        refine goL ?_
        refine V_nilA 6 0 ?_
        refine V_ret ?_
        replace h := Option.some.inj h
        subst h
        exact R_rH [.sl 0 (v2 + 1), .d (.b false)] [.arr 37 4 (v2 + 1) []] ⟨(v2 + 1), rfl, rfl⟩
      · replace h := cnd_f c13 h
        refine V_skip ?_
        show V _ _ _ _ _
        refine goL ?_
        obtain ⟨b14, hb14, h⟩ := lt_x h
        refine VO_join ⟨[(0, .sl 0 v2), (1, .d (.sl 3 (eTypes as_))), (2, .d (.sl 3 (eTypes bs))), (9, .ptr 3 0), (10, .ptr 4 0), (16, .d (.i .i64 (as_.length : Int))), (17, .d (.i .i64 (y3 : Int))), (48, .d (.b b14))], [.arr 37 4 v2 (eBindings y1), .own 27 3 0 (eTypes x9_2), .own 27 3 0 (eTypes x11_2), .box [.d (.i .i64 x9_0), .d (.s x9_1), .sl 1 0], .box [.d (.i .i64 x11_0), .d (.s x11_1), .sl 2 0]], Try.f64.ntmps⟩ ?_ ?_
        · refine VO_case 44 (fun c15 => ?_) (fun c15 => ?_)
          · replace hb14 := cnd_t c15 hb14
            refine goL ?_
            cases hb14
            exact ⟨rfl, ⟨⟨rfl, rfl⟩, ⟨rfl, rfl⟩, ⟨rfl, rfl⟩, ⟨rfl, rfl⟩, ⟨rfl, rfl⟩, ⟨rfl, rfl⟩, ⟨rfl, rfl⟩, ⟨rfl, rfl⟩, trivial⟩, ⟨[], rfl⟩, rfl⟩
          · replace hb14 := cnd_f c15 hb14
            refine goL ?_
            cases hb14
            exact ⟨rfl, ⟨⟨rfl, rfl⟩, ⟨rfl, rfl⟩, ⟨rfl, rfl⟩, ⟨rfl, rfl⟩, ⟨rfl, rfl⟩, ⟨rfl, rfl⟩, ⟨rfl, rfl⟩, ⟨rfl, rfl⟩, trivial⟩, ⟨[], rfl⟩, rfl⟩
        refine goL ?_
        refine V_cb (fun c16 => ?_) (fun c16 => ?_)
        · replace h := cnd_t c16 h
          refine goL ?_
          refine V_cb (fun c17 => ?_) (fun c17 => ?_)
          · replace h := cnd_t c17 h
            refine goL ?_
            refine VO_k (Q_cb (w_iOccurs x11_1 (TType.mk x9_0 x9_1 x9_2))) ?_
            refine goL ?_
            refine V_cb (fun c18 => ?_) (fun c18 => ?_)
            · replace h := cnd_t c18 h
              refine goL ?_
              refine V_nilA 6 0 ?_
              refine V_ret ?_
              replace h := Option.some.inj h
              subst h
              exact R_rH [.sl 0 (v2 + 1), .d (.b false)] [.arr 37 4 (v2 + 1) []] ⟨(v2 + 1), rfl, rfl⟩
            · replace h := cnd_f c18 h
              refine V_skip ?_
              show V _ _ _ _ _
              refine goL ?_
              refine VO_k (Q_build TBd.h TZ.h rfl (by repeat constructor)) ?_
              refine VO_freezeO 1 rfl rfl ?_
              refine VO_la1 (u := (.st [.s x11_1, .st [.i .i64 x9_0, .s x9_1, .sl 3 (eTypes x9_2)]])) ?_
              refine goL ?_
              refine V_block ?_
              show V _ _ _ _ _
              refine V_bda 0 (fun z22 => ?_)
              refine V_loop3 (fun (y21 : Nat) (y19 : List TBinding) (v20 : Nat) => ⟨[(0, .sl 0 v20), (1, .d (.sl 3 (eTypes as_))), (2, .d (.sl 3 (eTypes bs))), (11, .sl 5 0), (16, .d (.i .i64 (as_.length : Int))), (17, .d (.i .i64 (y3 : Int))), (64, .d (.i .i64 (y1.length : Int))), (65, .d (.i .i64 (y21 : Int)))], [.arr 37 4 v20 (eBindings y19), .frz 27 3 0 (eTypes x9_2), .own 27 3 0 (eTypes x11_2), .box [.d (.i .i64 x11_0), .d (.s x11_1), .sl 2 0], .box [.d (.i .i64 x9_0), .d (.s x9_1), .sl 1 0], .arr 37 4 0 (eBindings [(TBinding.mk x11_1 (TType.mk x9_0 x9_1 x9_2))])], Try.f64.ntmps⟩) (fun y21 y19 v20 => y21 ≤ y1.length ∧ b_iUnify_l2 (TType.mk x9_0 x9_1 x9_2) (TType.mk x11_0 x11_1 x11_2) (fun y19 => gd (y19.length + [(TBinding.mk (TType.mk x11_0 x11_1 x11_2).name (TType.mk x9_0 x9_1 x9_2))].length ≤ 4294967296) (
b_iUnify_l1 rec_iUnify bs (as_.drop (y3 + 1)) (y3 + 1) (y19 ++ [(TBinding.mk (TType.mk x11_0 x11_1 x11_2).name (TType.mk x9_0 x9_1 x9_2))]))) (y1.length - y21) y21 y19 = some r) (fun y21 y19 v20 => y1.length - y21) 0 y1 v2 ⟨rfl, ⟨⟨rfl, rfl⟩, ⟨rfl, rfl⟩, ⟨rfl, rfl⟩, ⟨rfl, rfl⟩, ⟨rfl, rfl⟩, ⟨rfl, rfl⟩, ⟨rfl, rfl⟩, ⟨rfl, rfl⟩, trivial⟩, ⟨[], rfl⟩, rfl⟩ ⟨by simp, h⟩ ?_
              rintro y21 y19 v20 ⟨hky21, h⟩
              refine goL ?_
              refine V_seq (V_cb (fun c23 => ?_) (fun c23 => ?_))
              · have hky212 := kltN c23
                obtain ⟨m24, hm24⟩ : ∃ m, y1.length - y21 = m + 1 := ⟨y1.length - y21 - 1, by omega⟩
                rw [hm24, b_iUnify_l2.eq_2] at h
                refine V_skip ?_
                show V _ _ _ _ _
                refine V_seq (V_block ?_)
                refine goL ?_
                obtain ⟨x25, hx25, h⟩ := bnd_s h
                rw [at_nat] at hx25
                obtain ⟨x25_0, ⟨x25_1_0, x25_1_1, x25_1_2⟩⟩ := x25
                refine VO_k (Q_ixa y21 (List.getElem?_eq_some_iff.1 hx25).1) ?_
                refine VO_k (Q_fla) ?_
                refine VO_k (Q_lfa [(.s x25_0)] (.st [.i .i64 x25_1_0, .s x25_1_1, .sl 3 (eTypes x25_1_2)]) hx25) ?_
                obtain ⟨g26, h⟩ := gd_s h
                obtain ⟨x27, hx27, h⟩ := lt_x h
                obtain ⟨x27_0, x27_1, x27_2⟩ := x27
                have sx27 := t_iApply [(TBinding.mk x11_1 (TType.mk x9_0 x9_1 x9_2))] (TType.mk x25_1_0 x25_1_1 x25_1_2) g26
                rw [hx27] at sx27
                refine VO_co (sx27) ?_
                refine VO_k (Q_ixa y21 (List.getElem?_eq_some_iff.1 hx25).1) ?_
                refine VO_k (Q_fla) ?_
                refine VO_freezeO 6 rfl rfl ?_
                refine VO_sta [(.s x25_0)] (.st [.i .i64 x25_1_0, .s x25_1_1, .sl 3 (eTypes x25_1_2)]) (.st [.i .i64 x27_0, .s x27_1, .sl 3 (eTypes x27_2)]) (TBinding.mk x25_0 (TType.mk x25_1_0 x25_1_1 x25_1_2)) (TBinding.mk x25_0 (TType.mk x27_0 x27_1 x27_2)) hx25 ?_
                refine goL ?_
                refine VO_r (QR_inc y21 (by omega)) ?_
                refine goL ?_
                rw [show m24 = y1.length - (y21 + 1) by omega] at h
                exact ⟨(y21 + 1), (y19.set y21 (TBinding.mk x25_0 (TType.mk x27_0 x27_1 x27_2))), v20, ⟨by omega, h⟩, by omega, ⟨rfl, ⟨⟨rfl, rfl⟩, ⟨rfl, rfl⟩, ⟨rfl, rfl⟩, ⟨rfl, rfl⟩, ⟨rfl, rfl⟩, ⟨rfl, rfl⟩, ⟨rfl, rfl⟩, ⟨rfl, rfl⟩, trivial⟩, ⟨_, rfl⟩, rfl⟩⟩
              · have hky212 := kgeN c23
                rw [show y1.length - y21 = 0 by omega, b_iUnify_l2.eq_1] at h
                refine V_exit ?_
                show V _ _ _ _ _
                refine goL ?_
                obtain ⟨g28, h⟩ := gd_s h
                refine VO_apa g28 ?_
                refine goL ?_
                refine V_exit ?_
                show V _ _ _ _ _
                refine goL ?_
                refine VO_r (QR_inc y3 (by omega)) ?_
                refine goL ?_
                exact ⟨(y3 + 1), (y19 ++ [(TBinding.mk x11_1 (TType.mk x9_0 x9_1 x9_2))]), (v20 + 1), h, by omega, ⟨rfl, ⟨⟨rfl, rfl⟩, ⟨rfl, rfl⟩, ⟨rfl, rfl⟩, ⟨rfl, rfl⟩, ⟨rfl, rfl⟩, trivial⟩, ⟨_, rfl⟩, rfl⟩⟩
          · replace h := cnd_f c17 h
            refine V_skip ?_
            show V _ _ _ _ _
            refine goL ?_
            obtain ⟨b29, hb29, h⟩ := lt_x h
            refine VO_join ⟨[(0, .sl 0 v2), (1, .d (.sl 3 (eTypes as_))), (2, .d (.sl 3 (eTypes bs))), (9, .ptr 3 0), (10, .ptr 4 0), (16, .d (.i .i64 (as_.length : Int))), (17, .d (.i .i64 (y3 : Int))), (103, .d (.b b29))], [.arr 37 4 v2 (eBindings y1), .own 27 3 0 (eTypes x9_2), .own 27 3 0 (eTypes x11_2), .box [.d (.i .i64 x11_0), .d (.s x11_1), .sl 2 0], .box [.d (.i .i64 x9_0), .d (.s x9_1), .sl 1 0]], Try.f64.ntmps⟩ ?_ ?_
            · refine VO_case 88 (fun c30 => ?_) (fun c30 => ?_) (by first | rfl | (simp only [eTypes_len, eBindings_len]; rfl))
              · replace hb29 := cnd_t c30 hb29
                refine goL ?_
                cases hb29
                exact ⟨rfl, ⟨⟨rfl, rfl⟩, ⟨rfl, rfl⟩, ⟨rfl, rfl⟩, ⟨rfl, rfl⟩, ⟨rfl, rfl⟩, ⟨rfl, rfl⟩, ⟨rfl, rfl⟩, ⟨by first | rfl | (simp only [eTypes_len, eBindings_len]; rfl), rfl⟩, trivial⟩, ⟨[], rfl⟩, rfl⟩
              · replace hb29 := cnd_f c30 hb29
                refine goL ?_
                refine VO_case 95 (fun c31 => ?_) (fun c31 => ?_) (by first | rfl | (simp only [eTypes_len, eBindings_len]; rfl))
                · replace hb29 := cnd_t c31 hb29
                  refine goL ?_
                  cases hb29
                  exact ⟨rfl, ⟨⟨rfl, rfl⟩, ⟨rfl, rfl⟩, ⟨rfl, rfl⟩, ⟨rfl, rfl⟩, ⟨rfl, rfl⟩, ⟨rfl, rfl⟩, ⟨rfl, rfl⟩, ⟨by first | rfl | (simp only [eTypes_len, eBindings_len]; rfl), rfl⟩, trivial⟩, ⟨[], rfl⟩, rfl⟩
                · replace hb29 := cnd_f c31 hb29
                  refine goL ?_
                  cases hb29
                  exact ⟨rfl, ⟨⟨rfl, rfl⟩, ⟨rfl, rfl⟩, ⟨rfl, rfl⟩, ⟨rfl, rfl⟩, ⟨rfl, rfl⟩, ⟨rfl, rfl⟩, ⟨rfl, rfl⟩, ⟨by first | rfl | (simp only [eTypes_len, eBindings_len]; rfl), rfl⟩, trivial⟩, ⟨[], rfl⟩, rfl⟩
            refine goL ?_
            refine V_cb (fun c32 => ?_) (fun c32 => ?_)
            · replace h := cnd_t c32 h
              refine goL ?_
              refine V_nilA 6 0 ?_
              refine V_ret ?_
              replace h := Option.some.inj h
              subst h
              exact R_rH [.sl 0 (v2 + 1), .d (.b false)] [.arr 37 4 (v2 + 1) []] ⟨(v2 + 1), rfl, rfl⟩
            · replace h := cnd_f c32 h
              refine V_skip ?_
              show V _ _ _ _ _
              refine goL ?_
              refine VO_freezeO 2 rfl rfl ?_
              refine VO_freezeO 1 rfl rfl ?_
              obtain ⟨x33, hx33, h⟩ := bnd_s h
              obtain ⟨x33_0, x33_1⟩ := x33
              refine VO_cG [0] (hrec_iUnify y1 x11_2 x9_2 v2 hx33) ?_
              rintro _ _ ⟨v34, rfl, rfl⟩
              show VO _ _ _ _ ⟨(_, .tup [.sl 0 v34, .d (.b x33_0)]) :: _, [.arr 37 4 v34 (eBindings x33_1), .frz 27 3 0 (eTypes x9_2), .frz 27 3 0 (eTypes x11_2), .box [.d (.i .i64 x11_0), .d (.s x11_1), .sl 2 0], .box [.d (.i .i64 x9_0), .d (.s x9_1), .sl 1 0]], _⟩ _
              refine goL ?_
              refine V_cb (fun c35 => ?_) (fun c35 => ?_)
              · replace h := cnd_t c35 h
                refine goL ?_
                refine V_nilA 6 0 ?_
                refine V_ret ?_
                replace h := Option.some.inj h
                subst h
                exact R_rH [.sl 0 (v34 + 1), .d (.b false)] [.arr 37 4 (v34 + 1) []] ⟨(v34 + 1), rfl, rfl⟩
              · replace h := cnd_f c35 h
                refine V_skip ?_
                show V _ _ _ _ _
                refine goL ?_
                refine VO_r (QR_inc y3 (by omega)) ?_
                refine goL ?_
                exact ⟨(y3 + 1), x33_1, v34, h, by omega, ⟨rfl, ⟨⟨rfl, rfl⟩, ⟨rfl, rfl⟩, ⟨rfl, rfl⟩, ⟨rfl, rfl⟩, ⟨rfl, rfl⟩, trivial⟩, ⟨_, rfl⟩, rfl⟩⟩
        · replace h := cnd_f c16 h
          refine V_skip ?_
          show V _ _ _ _ _
          refine goL ?_
          refine V_cb (fun c36 => ?_) (fun c36 => ?_)
          · replace h := cnd_t c36 h
            refine goL ?_
            refine VO_k (Q_cb (w_iOccurs x9_1 (TType.mk x11_0 x11_1 x11_2))) ?_
            refine goL ?_
            refine V_cb (fun c37 => ?_) (fun c37 => ?_)
            · replace h := cnd_t c37 h
              refine goL ?_
              refine V_nilA 6 0 ?_
              refine V_ret ?_
              replace h := Option.some.inj h
              subst h
              exact R_rH [.sl 0 (v2 + 1), .d (.b false)] [.arr 37 4 (v2 + 1) []] ⟨(v2 + 1), rfl, rfl⟩
            · replace h := cnd_f c37 h
              refine V_skip ?_
              show V _ _ _ _ _
              refine goL ?_
              refine VO_k (Q_build TBd.h TZ.h rfl (by repeat constructor)) ?_
              refine VO_freezeO 2 rfl rfl ?_
              refine VO_la1 (u := (.st [.s x9_1, .st [.i .i64 x11_0, .s x11_1, .sl 3 (eTypes x11_2)]])) ?_
              refine goL ?_
              refine V_block ?_
              show V _ _ _ _ _
              refine V_bda 0 (fun z41 => ?_)
              refine V_loop3 (fun (y40 : Nat) (y38 : List TBinding) (v39 : Nat) => ⟨[(0, .sl 0 v39), (1, .d (.sl 3 (eTypes as_))), (2, .d (.sl 3 (eTypes bs))), (11, .sl 5 0), (16, .d (.i .i64 (as_.length : Int))), (17, .d (.i .i64 (y3 : Int))), (64, .d (.i .i64 (y1.length : Int))), (65, .d (.i .i64 (y40 : Int)))], [.arr 37 4 v39 (eBindings y38), .own 27 3 0 (eTypes x9_2), .frz 27 3 0 (eTypes x11_2), .box [.d (.i .i64 x9_0), .d (.s x9_1), .sl 1 0], .box [.d (.i .i64 x11_0), .d (.s x11_1), .sl 2 0], .arr 37 4 0 (eBindings [(TBinding.mk x9_1 (TType.mk x11_0 x11_1 x11_2))])], Try.f64.ntmps⟩) (fun y40 y38 v39 => y40 ≤ y1.length ∧ b_iUnify_l3 (TType.mk x9_0 x9_1 x9_2) (TType.mk x11_0 x11_1 x11_2) (fun y38 => gd (y38.length + [(TBinding.mk (TType.mk x9_0 x9_1 x9_2).name (TType.mk x11_0 x11_1 x11_2))].length ≤ 4294967296) (
b_iUnify_l1 rec_iUnify bs (as_.drop (y3 + 1)) (y3 + 1) (y38 ++ [(TBinding.mk (TType.mk x9_0 x9_1 x9_2).name (TType.mk x11_0 x11_1 x11_2))]))) (y1.length - y40) y40 y38 = some r) (fun y40 y38 v39 => y1.length - y40) 0 y1 v2 ⟨rfl, ⟨⟨rfl, rfl⟩, ⟨rfl, rfl⟩, ⟨rfl, rfl⟩, ⟨rfl, rfl⟩, ⟨rfl, rfl⟩, ⟨rfl, rfl⟩, ⟨rfl, rfl⟩, ⟨rfl, rfl⟩, trivial⟩, ⟨[], rfl⟩, rfl⟩ ⟨by simp, h⟩ ?_
              rintro y40 y38 v39 ⟨hky40, h⟩
              refine goL ?_
              refine V_seq (V_cb (fun c42 => ?_) (fun c42 => ?_))
              · have hky402 := kltN c42
                obtain ⟨m43, hm43⟩ : ∃ m, y1.length - y40 = m + 1 := ⟨y1.length - y40 - 1, by omega⟩
                rw [hm43, b_iUnify_l3.eq_2] at h
                refine V_skip ?_
                show V _ _ _ _ _
                refine V_seq (V_block ?_)
                refine goL ?_
                obtain ⟨x44, hx44, h⟩ := bnd_s h
                rw [at_nat] at hx44
                obtain ⟨x44_0, ⟨x44_1_0, x44_1_1, x44_1_2⟩⟩ := x44
                refine VO_k (Q_ixa y40 (List.getElem?_eq_some_iff.1 hx44).1) ?_
                refine VO_k (Q_fla) ?_
                refine VO_k (Q_lfa [(.s x44_0)] (.st [.i .i64 x44_1_0, .s x44_1_1, .sl 3 (eTypes x44_1_2)]) hx44) ?_
                obtain ⟨g45, h⟩ := gd_s h
                obtain ⟨x46, hx46, h⟩ := lt_x h
                obtain ⟨x46_0, x46_1, x46_2⟩ := x46
                have sx46 := t_iApply [(TBinding.mk x9_1 (TType.mk x11_0 x11_1 x11_2))] (TType.mk x44_1_0 x44_1_1 x44_1_2) g45
                rw [hx46] at sx46
                refine VO_co (sx46) ?_
                refine VO_k (Q_ixa y40 (List.getElem?_eq_some_iff.1 hx44).1) ?_
                refine VO_k (Q_fla) ?_
                refine VO_freezeO 6 rfl rfl ?_
                refine VO_sta [(.s x44_0)] (.st [.i .i64 x44_1_0, .s x44_1_1, .sl 3 (eTypes x44_1_2)]) (.st [.i .i64 x46_0, .s x46_1, .sl 3 (eTypes x46_2)]) (TBinding.mk x44_0 (TType.mk x44_1_0 x44_1_1 x44_1_2)) (TBinding.mk x44_0 (TType.mk x46_0 x46_1 x46_2)) hx44 ?_
                refine goL ?_
                refine VO_r (QR_inc y40 (by omega)) ?_
                refine goL ?_
                rw [show m43 = y1.length - (y40 + 1) by omega] at h
                exact ⟨(y40 + 1), (y38.set y40 (TBinding.mk x44_0 (TType.mk x46_0 x46_1 x46_2))), v39, ⟨by omega, h⟩, by omega, ⟨rfl, ⟨⟨rfl, rfl⟩, ⟨rfl, rfl⟩, ⟨rfl, rfl⟩, ⟨rfl, rfl⟩, ⟨rfl, rfl⟩, ⟨rfl, rfl⟩, ⟨rfl, rfl⟩, ⟨rfl, rfl⟩, trivial⟩, ⟨_, rfl⟩, rfl⟩⟩
              · have hky402 := kgeN c42
                rw [show y1.length - y40 = 0 by omega, b_iUnify_l3.eq_1] at h
                refine V_exit ?_
                show V _ _ _ _ _
                refine goL ?_
                obtain ⟨g47, h⟩ := gd_s h
                refine VO_apa g47 ?_
                refine goL ?_
                refine V_exit ?_
                show V _ _ _ _ _
                refine goL ?_
                refine VO_r (QR_inc y3 (by omega)) ?_
                refine goL ?_
                exact ⟨(y3 + 1), (y38 ++ [(TBinding.mk x9_1 (TType.mk x11_0 x11_1 x11_2))]), (v39 + 1), h, by omega, ⟨rfl, ⟨⟨rfl, rfl⟩, ⟨rfl, rfl⟩, ⟨rfl, rfl⟩, ⟨rfl, rfl⟩, ⟨rfl, rfl⟩, trivial⟩, ⟨_, rfl⟩, rfl⟩⟩
          · replace h := cnd_f c36 h
            refine V_skip ?_
            show V _ _ _ _ _
            refine goL ?_
            obtain ⟨b48, hb48, h⟩ := lt_x h
            refine VO_join ⟨[(0, .sl 0 v2), (1, .d (.sl 3 (eTypes as_))), (2, .d (.sl 3 (eTypes bs))), (9, .ptr 3 0), (10, .ptr 4 0), (16, .d (.i .i64 (as_.length : Int))), (17, .d (.i .i64 (y3 : Int))), (103, .d (.b b48))], [.arr 37 4 v2 (eBindings y1), .own 27 3 0 (eTypes x9_2), .own 27 3 0 (eTypes x11_2), .box [.d (.i .i64 x9_0), .d (.s x9_1), .sl 1 0], .box [.d (.i .i64 x11_0), .d (.s x11_1), .sl 2 0]], Try.f64.ntmps⟩ ?_ ?_
            · refine VO_case 88 (fun c49 => ?_) (fun c49 => ?_) (by first | rfl | (simp only [eTypes_len, eBindings_len]; rfl))
              · replace hb48 := cnd_t c49 hb48
                refine goL ?_
                cases hb48
                exact ⟨rfl, ⟨⟨rfl, rfl⟩, ⟨rfl, rfl⟩, ⟨rfl, rfl⟩, ⟨rfl, rfl⟩, ⟨rfl, rfl⟩, ⟨rfl, rfl⟩, ⟨rfl, rfl⟩, ⟨by first | rfl | (simp only [eTypes_len, eBindings_len]; rfl), rfl⟩, trivial⟩, ⟨[], rfl⟩, rfl⟩
              · replace hb48 := cnd_f c49 hb48
                refine goL ?_
                refine VO_case 95 (fun c50 => ?_) (fun c50 => ?_) (by first | rfl | (simp only [eTypes_len, eBindings_len]; rfl))
                · replace hb48 := cnd_t c50 hb48
                  refine goL ?_
                  cases hb48
                  exact ⟨rfl, ⟨⟨rfl, rfl⟩, ⟨rfl, rfl⟩, ⟨rfl, rfl⟩, ⟨rfl, rfl⟩, ⟨rfl, rfl⟩, ⟨rfl, rfl⟩, ⟨rfl, rfl⟩, ⟨by first | rfl | (simp only [eTypes_len, eBindings_len]; rfl), rfl⟩, trivial⟩, ⟨[], rfl⟩, rfl⟩
                · replace hb48 := cnd_f c50 hb48
                  refine goL ?_
                  cases hb48
                  exact ⟨rfl, ⟨⟨rfl, rfl⟩, ⟨rfl, rfl⟩, ⟨rfl, rfl⟩, ⟨rfl, rfl⟩, ⟨rfl, rfl⟩, ⟨rfl, rfl⟩, ⟨rfl, rfl⟩, ⟨by first | rfl | (simp only [eTypes_len, eBindings_len]; rfl), rfl⟩, trivial⟩, ⟨[], rfl⟩, rfl⟩
            refine goL ?_
            refine V_cb (fun c51 => ?_) (fun c51 => ?_)
            · replace h := cnd_t c51 h
              refine goL ?_
              refine V_nilA 6 0 ?_
              refine V_ret ?_
              replace h := Option.some.inj h
              subst h
              exact R_rH [.sl 0 (v2 + 1), .d (.b false)] [.arr 37 4 (v2 + 1) []] ⟨(v2 + 1), rfl, rfl⟩
            · replace h := cnd_f c51 h
              refine V_skip ?_
              show V _ _ _ _ _
              refine goL ?_
              refine VO_freezeO 1 rfl rfl ?_
              refine VO_freezeO 2 rfl rfl ?_
              obtain ⟨x52, hx52, h⟩ := bnd_s h
              obtain ⟨x52_0, x52_1⟩ := x52
              refine VO_cG [0] (hrec_iUnify y1 x9_2 x11_2 v2 hx52) ?_
              rintro _ _ ⟨v53, rfl, rfl⟩
              show VO _ _ _ _ ⟨(_, .tup [.sl 0 v53, .d (.b x52_0)]) :: _, [.arr 37 4 v53 (eBindings x52_1), .frz 27 3 0 (eTypes x9_2), .frz 27 3 0 (eTypes x11_2), .box [.d (.i .i64 x9_0), .d (.s x9_1), .sl 1 0], .box [.d (.i .i64 x11_0), .d (.s x11_1), .sl 2 0]], _⟩ _
              refine goL ?_
              refine V_cb (fun c54 => ?_) (fun c54 => ?_)
              · replace h := cnd_t c54 h
                refine goL ?_
                refine V_nilA 6 0 ?_
                refine V_ret ?_
                replace h := Option.some.inj h
                subst h
                exact R_rH [.sl 0 (v53 + 1), .d (.b false)] [.arr 37 4 (v53 + 1) []] ⟨(v53 + 1), rfl, rfl⟩
              · replace h := cnd_f c54 h
                refine V_skip ?_
                show V _ _ _ _ _
                refine goL ?_
                refine VO_r (QR_inc y3 (by omega)) ?_
                refine goL ?_
                exact ⟨(y3 + 1), x52_1, v53, h, by omega, ⟨rfl, ⟨⟨rfl, rfl⟩, ⟨rfl, rfl⟩, ⟨rfl, rfl⟩, ⟨rfl, rfl⟩, ⟨rfl, rfl⟩, trivial⟩, ⟨_, rfl⟩, rfl⟩⟩
  · have hky32 := kgeN c5
    rw [drop_end hky32, b_iUnify_l1.eq_1] at h
    refine V_exit ?_
    show V _ _ _ _ _
    refine goL ?_
    refine V_ret ?_
    replace h := Option.some.inj h
    subst h
    exact R_rH [.sl 0 v2, .d (.b true)] [.arr 37 4 v2 (eBindings y1)] ⟨v2, rfl, rfl⟩
def m_iUnify : Nat → (List TBinding) → (List TType) → (List TType) → Option (Bool × List TBinding)
  | 0, _, _, _ => none
  | n + 1, x0, x1, x2 => b_iUnify (m_iUnify n) x0 x1 x2
theorem s_iUnify : ∀ (n : Nat) (x0 : List TBinding) (x1 : List TType) (x2 : List TType) (w0 : Nat) {r : Bool × List TBinding}, m_iUnify n x0 x1 x2 = some r → Go.Eng.Spec Try.prog 64 [.sl 0 w0, .d (.sl 3 (eTypes x1)), .d (.sl 3 (eTypes x2))] [.arr 37 4 w0 (eBindings x0)] (fun sv Lo => ∃ v'0, sv = .tup [.sl 0 v'0, .d (.b r.1)] ∧ Lo = [.arr 37 4 v'0 (eBindings r.2)]) := by
  intro n
  induction n with
  | zero => intro x0 x1 x2 w0 r h; cases h
  | succ n ih => intro x0 x1 x2 w0 r h; exact w_iUnify ih x0 x1 x2 w0 h
end Go.Proofs.Ytiaghdodeinecaa
set_option linter.unusedVariables false
set_option linter.unusedSimpArgs false
set_option linter.unusedSectionVars false
namespace Go.Proofs.Ytiaghdodeinecaa
open Go Go.Eng
attribute [local irreducible] V VO VQ VY Quiet QR SpecP SpecO Rng PostP PostO PostG
def unifyNil (a b : List TType) : Option (List TBinding × Bool) := (m_iUnify 50000 [] a b).map fun r => (r.2, r.1)
theorem t_unifyNil (a b : List TType) {r : List TBinding × Bool} (h : unifyNil a b = some r) : Go.Eng.Spec Try.prog 64 [.nilsl, .d (.sl 3 (eTypes a)), .d (.sl 3 (eTypes b))] [] (fun sv Lo => sv = .tup [.d (.sl 4 (eBindings r.1)), .d (.b r.2)] ∧ Lo = []) := by
  unfold unifyNil at h
  cases hm : m_iUnify 50000 [] a b with
  | none => rw [hm] at h; cases h
  | some p =>
    rw [hm] at h
    simp only [Option.map_some, Option.some.injEq] at h
    subst h
    exact Spec.nilF (s_iUnify 50000 [] a b 0 hm)
def b_iUnifyAll (a0 : List TType) (a1 : List TType) : Option (List TBinding × Bool) :=
(cnd ((a0.length : Int) != (a1.length : Int)) (
(some ([], false))) (
bnd (unifyNil a0 a1) fun x2 =>
(some (x2.1, x2.2))))
set_option maxHeartbeats 4000000 in
theorem w_iUnifyAll (a0 : List TType) (a1 : List TType) {r : List TBinding × Bool} (h : b_iUnifyAll a0 a1 = some r) : SpecP Try.prog 46 [.d (.sl 3 (eTypes a0)), .d (.sl 3 (eTypes a1))] [.sl 4 (eBindings r.1), .b r.2] := by
  unfold b_iUnifyAll at h
  refine SpecP_intro Try.func46 rfl (by kernel_rfl) rfl fun A _ => ?_
  refine goL ?_
  refine V_cb (fun c1 => ?_) (fun c1 => ?_)
  · replace h := cnd_t c1 h
    refine goL ?_
    refine V_ret ?_
    replace h := Option.some.inj h
    subst h
    exact R_rP
  · replace h := cnd_f c1 h
    refine V_skip ?_
    show V _ _ _ _ _
    refine goL ?_
    obtain ⟨x2, hx2, h⟩ := bnd_s h
    obtain ⟨x2_0, x2_1⟩ := x2
    refine VO_cG [] (t_unifyNil a0 a1 hx2) ?_
    rintro _ _ ⟨rfl, rfl⟩
    show VO _ _ _ _ ⟨(_, .tup [.d (.sl 4 (eBindings x2_0)), .d (.b x2_1)]) :: _, [], _⟩ _
    refine goL ?_
    refine V_ret ?_
    replace h := Option.some.inj h
    subst h
    exact R_rP
def b_iUnifyF (a0 : TType) (a1 : TType) : Option (List TBinding × Bool) :=
bnd (b_iUnifyAll [a0] [a1]) fun x1 =>
(some (x1.1, x1.2))
set_option maxHeartbeats 4000000 in
theorem w_iUnifyF (a0 : TType) (a1 : TType) {r : List TBinding × Bool} (h : b_iUnifyF a0 a1 = some r) : SpecP Try.prog 26 [.d (eType a0), .d (eType a1)] [.sl 4 (eBindings r.1), .b r.2] := by
  obtain ⟨a0_0, a0_1, a0_2⟩ := a0
  obtain ⟨a1_0, a1_1, a1_2⟩ := a1
  unfold b_iUnifyF at h
  refine SpecP_intro Try.func26 rfl (by kernel_rfl) rfl fun A _ => ?_
  refine goL ?_
  refine VO_la1 (u := (.st [.i .i64 a0_0, .s a0_1, .sl 3 (eTypes a0_2)])) ?_
  refine goL ?_
  refine VO_la1 (u := (.st [.i .i64 a1_0, .s a1_1, .sl 3 (eTypes a1_2)])) ?_
  refine VO_freeze 2 rfl rfl ?_
  refine VO_freeze 3 rfl rfl ?_
  obtain ⟨x1, hx1, h⟩ := bnd_s h
  obtain ⟨x1_0, x1_1⟩ := x1
  refine VO_k (Q_cl (w_iUnifyAll [(TType.mk a0_0 a0_1 a0_2)] [(TType.mk a1_0 a1_1 a1_2)] hx1)) ?_
  refine goL ?_
  refine V_ret ?_
  replace h := Option.some.inj h
  subst h
  exact R_rP
def b_big (a0 : List UInt8) : Bool :=
(decide ((a0.length : Int) > 1048576))
set_option maxHeartbeats 4000000 in
theorem w_big (a0 : List UInt8) : SpecP Try.prog 5 [.d (.sl 1 (eBytes a0))] [.b (b_big a0)] := by
  obtain ⟨r, h⟩ : ∃ r, b_big a0 = r := ⟨_, rfl⟩
  rw [h]
  unfold b_big at h
  refine SpecP_intro Try.func5 rfl (by kernel_rfl) rfl fun A _ => ?_
  refine goL ?_
  refine V_ret ?_
  subst h
  exact R_rP
end Go.Proofs.Ytiaghdodeinecaa
