/- Erase of the program and of the reference. Written by a program of mine. -/
import Derived.Test.YtjckkahiapjkfaaMarkC
import Derived.Test.YtjckkahiapjkfaaEng31
set_option linter.unusedVariables false
set_option linter.unusedSimpArgs false
namespace Go.Proofs.Ytjckkahiapjkfaa
open Go Go.Eng
attribute [local irreducible] V VO VQ VY Quiet SpecP SpecO MSpec

theorem strs_ok : ∀ {vs : List U}, (∀ x ∈ vs, wt .str x) → (∀ x ∈ vs, x.sz = 1) ∧ U.noSls vs = true
  | [], _ => ⟨by simp, rfl⟩
  | v :: vs, h => by
    obtain ⟨n, rfl, _⟩ := inv_str (h v (by simp))
    obtain ⟨h1, h2⟩ := strs_ok (vs := vs) (fun x hx => h x (by simp [hx]))
    refine ⟨fun x hx => ?_, by simp [U.noSls, U.noSl, h2]⟩
    rcases List.mem_cons.1 hx with rfl | hx
    · rfl
    · exact h1 x hx
set_option maxHeartbeats 8000000 in
theorem copyNames_all {vs : List U} (hl : vs.length ≤ 1048576) (h : ∀ x ∈ vs, wt .str x) : SpecO Try.prog 62 [.d (.sl 1 vs)] [9] [.sl 1 vs] := by
  obtain ⟨s1, s2⟩ := strs_ok h
  refine SpecO_intro Try.func62 rfl (by kernel_rfl) rfl (by simp) fun A => ?_
  repeat (first | refine VO_d ?_ | refine VQ_d ?_  | (first | refine VO_nil ?_ | refine VQ_nil ?_) | (first | refine V_seq_region ?_ | refine V_seq (V_seq_region ?_) | refine V_seq_draw tmix (by kernel_rfl) ?_ | refine V_seq (V_seq_draw tmix (by kernel_rfl) ?_) | refine V_region ?_ | refine V_draw tmix (by kernel_rfl) ?_))
  refine VR_append_nil rfl (.data s1 s2) (by decide) TE.h TI.h TZ.h rfl (by rw [big_eq]; omega) (by omega) rfl (by repeat constructor) (by repeat constructor) ?_
  repeat (first | refine VO_d ?_ | refine VQ_d ?_  | (first | refine VO_nil ?_ | refine VQ_nil ?_) | (first | refine V_seq_region ?_ | refine V_seq (V_seq_region ?_) | refine V_seq_draw tmix (by kernel_rfl) ?_ | refine V_seq (V_seq_draw tmix (by kernel_rfl) ?_) | refine V_region ?_ | refine V_draw tmix (by kernel_rfl) ?_))
  refine V_ret ?_
  exact ⟨trivial, _, (by repeat (first | exact rfl | exact ResV_ag rfl rfl TI.h rfl rfl | exact ResV_one rfl rfl TI.h rfl | constructor)), by decide⟩

abbrev PEr (f : Nat) (u e : U) : Prop := W u ≤ 1048576 → SpecO Try.prog f [.d u] [26, 71, 113] [e]
abbrev QC (f : Nat) (u e : U) : Prop := wt (.st 21) u ∧ wt (.st 4) e ∧ PEr f u e
abbrev QA (f : Nat) (a x : U) : Prop := ∃ c vs b e, a = .st [.s c, .sl 1 vs, b] ∧ x = .st [.s c, .sl 1 vs, e] ∧ c.length ≤ big ∧ (vs.length ≤ big ∧ ∀ y ∈ vs, wt .str y) ∧ QC f b e

set_option maxHeartbeats 8000000 in
theorem implEr_step {f0 f3 t0 : Int} {f1 f2 t1 : List UInt8} {t2 f5 f6 f7 f8 es xs : List U} (h7 : All2 (QC 25) f7 es) (h8 : All2 (QA 25) f8 xs) : PEr 25 (.st [.i .i64 f0, .s f1, .s f2, .i .i64 f3, .st [.i .i64 t0, .s t1, .sl 3 t2], .sl 3 f5, .sl 5 f6, .sl 11 f7, .sl 13 f8]) (.st [.i .i64 f0, .s f1, .s f2, .i .i64 f3, .st [.i .i64 0, .s [], .sl 3 []], .sl 9 es, .sl 11 xs]) := by
  intro hw
  have hW : f7.length + Ws f7 ≤ 1048576 ∧ f8.length + Ws f8 ≤ 1048576 := by simp only [W, Ws] at hw; omega
  clear hw
  obtain ⟨hW7, hW8⟩ := hW
  have hl7 := h7.length
  have hl8 := h8.length
  refine SpecO_intro Try.func25 rfl (by kernel_rfl) rfl (by simp) fun A => ?_
  repeat (first | refine VO_d ?_ | refine VQ_d ?_ | (first | refine VO_q (Q_build TBd.h TZ.h rfl (by repeat constructor)) rfl ?_ | refine VQ_q (Q_build TBd.h TZ.h rfl (by repeat constructor)) rfl ?_ | (refine VO_bare rfl rfl rfl rfl ?_; refine VO_q (Q_build TBd.h TZ.h rfl (by repeat constructor)) rfl ?_) | refine VQ_run rfl rfl rfl rfl (Q_build TBd.h TZ.h rfl (by repeat constructor)) rfl ?_) | (first | refine VO_nil ?_ | refine VQ_nil ?_) | (first | refine V_seq_region ?_ | refine V_seq (V_seq_region ?_) | refine V_seq_draw tmix (by kernel_rfl) ?_ | refine V_seq (V_seq_draw tmix (by kernel_rfl) ?_) | refine V_region ?_ | refine V_draw tmix (by kernel_rfl) ?_))
  refine V_adopt 26 3 2 6 rfl rfl (by repeat constructor) (by repeat constructor) (by repeat constructor) (by repeat constructor) ?_
  refine V_adopt 71 9 2 7 rfl rfl (by repeat constructor) (by repeat constructor) (by repeat constructor) (by repeat constructor) ?_
  refine V_adopt 113 11 2 8 rfl rfl (by repeat constructor) (by repeat constructor) (by repeat constructor) (by repeat constructor) ?_
  repeat (first | refine VO_d ?_ | refine VQ_d ?_ | (first | refine VO_q (Q_build TBd.h TZ.h rfl (by repeat constructor)) rfl ?_ | refine VQ_q (Q_build TBd.h TZ.h rfl (by repeat constructor)) rfl ?_ | (refine VO_bare rfl rfl rfl rfl ?_; refine VO_q (Q_build TBd.h TZ.h rfl (by repeat constructor)) rfl ?_) | refine VQ_run rfl rfl rfl rfl (Q_build TBd.h TZ.h rfl (by repeat constructor)) rfl ?_) | (first | refine VO_nil ?_ | refine VQ_nil ?_) | (first | refine V_seq_region ?_ | refine V_seq (V_seq_region ?_) | refine V_seq_draw tmix (by kernel_rfl) ?_ | refine V_seq (V_seq_draw tmix (by kernel_rfl) ?_) | refine V_region ?_ | refine V_draw tmix (by kernel_rfl) ?_))
  refine V_block ?_
  refine V_loop (α := Nat)
    (fun k => ⟨[(1, .ptr 0 0), (2, .ptr 1 0), (3, .ptr 2 0), (18, .d (.sl 11 f7)), (19, .d (.i .i64 f7.length)), (20, .d (.i .i64 k))], [.box [.d (.i .i64 f0), .d (.s f1), .d (.s f2), .d (.i .i64 f3), .d (.i .i64 t0), .d (.s t1), .d (.sl 3 t2), .d (.sl 3 f5), .d (.sl 5 f6), .d (.sl 11 f7), .d (.sl 13 f8)], .box [.d (.i .i64 0), .d (.s []), .d (.s []), .d (.i .i64 0), .d (.i .i64 0), .d (.s []), .nilsl, .nilsl, .nilsl], .box [.d (.i .i64 f0), .d (.s f1), .d (.s f2), .d (.i .i64 f3), .d (.i .i64 0), .d (.s []), .sl 3 0, .sl 4 (k), .sl 5 (0)], .own 26 3 0 [], .own 71 9 (k) (es.take k), .own 113 11 (0) ([])], Try.f25.ntmps⟩)
    (fun k => k ≤ f7.length)
    (fun k => f7.length - k) 0 ⟨rfl, ⟨⟨rfl, rfl⟩, ⟨rfl, rfl⟩, ⟨rfl, rfl⟩, ⟨rfl, rfl⟩, ⟨rfl, rfl⟩, ⟨rfl, rfl⟩, trivial⟩, ⟨[], rfl⟩, rfl⟩ (by simp) ?_
  intro k hk
  repeat (first | refine VO_d ?_ | refine VQ_d ?_  | (first | refine VO_nil ?_ | refine VQ_nil ?_) | (first | refine V_seq_region ?_ | refine V_seq (V_seq_region ?_) | refine V_seq_draw tmix (by kernel_rfl) ?_ | refine V_seq (V_seq_draw tmix (by kernel_rfl) ?_) | refine V_region ?_ | refine V_draw tmix (by kernel_rfl) ?_))
  (first | refine V_cond rfl (fun hc2 => ?_) (fun hc2 => ?_) | refine V_seq (V_cond rfl (fun hc2 => ?_) (fun hc2 => ?_)))
  · refine V_skip ?_
    simp only [decide_eq_true_eq] at hc2
    have hkl : k < f7.length := by omega
    obtain ⟨a, hget⟩ : ∃ a, f7[k]? = some a := ⟨_, List.getElem?_eq_getElem hkl⟩
    have hmem := List.mem_of_getElem? hget
    have hwk := W_le_of_mem hmem
    have htk : (es.take k).length = k := by simp; omega
    obtain ⟨e, hge, hwa, hwe, hcall⟩ := h7.get k a hget
    have hcall := hcall (by omega)
    have hnext := take_get hge
    obtain ⟨a_0, a_1, a_2, a_3, a_4, a_5, a_6, a_7, a_8, rfl, hwa_0, hwa_1, hwa_2, hwa_3, hwa_4, hwa_5, hwa_6, hwa_7, hwa_8⟩ := inv_Core hwa
    obtain ⟨a_4_0, a_4_1, a_4_2, rfl, hwa_4_0, hwa_4_1, hwa_4_2⟩ := inv_Type hwa_4
    obtain ⟨e_0, e_1, e_2, e_3, e_4, e_5, e_6, rfl, hwe_0, hwe_1, hwe_2, hwe_3, hwe_4, hwe_5, hwe_6⟩ := inv_Expr hwe
    obtain ⟨e_4_0, e_4_1, e_4_2, rfl, hwe_4_0, hwe_4_1, hwe_4_2⟩ := inv_Type hwe_4
    refine V_seq (V_block ?_)
    repeat (first | refine VO_d ?_ | (first | refine VO_q (Q_index rfl rfl TE.h TI.h (by omega) hget) rfl ?_ | refine VQ_q (Q_index rfl rfl TE.h TI.h (by omega) hget) rfl ?_ | (refine VO_bare rfl rfl rfl rfl ?_; refine VO_q (Q_index rfl rfl TE.h TI.h (by omega) hget) rfl ?_) | refine VQ_run rfl rfl rfl rfl (Q_index rfl rfl TE.h TI.h (by omega) hget) rfl ?_) | refine VO_nil ?_ | refine V_seq_region ?_ | refine V_seq (V_seq_region ?_))
    (first | refine V_seq_drawX tmix [(0, true), (1, true), (2, true), (3, false), (4, false), (5, false), (6, true), (7, false)] (by kernel_rfl) ?_ | refine V_drawX tmix [(0, true), (1, true), (2, true), (3, false), (4, false), (5, false), (6, true), (7, false)] (by kernel_rfl) ?_)
    repeat (first | refine VY_d rfl ?_ | refine VY_h rfl (by repeat constructor) (by repeat (first | exact PfOk.nil | (apply PfOk.keep; focus ((repeat constructor); done)) | (apply PfOk.dep; focus kernel_rfl))) ?_ | refine VY_index rfl rfl rfl TE.h TI.h (by omega) hget rfl ?_)
    refine VY_hst rfl (HSt_callO rfl hcall (by (repeat (first | exact trivial | exact rfl | exact ⟨_, rfl⟩ | refine And.intro ?_ ?_)); first | done | fail) (by repeat (first | exact rfl | constructor)) (by repeat (first | exact rfl | constructor)) (by repeat (first | exact rfl | constructor)) rfl) (by repeat (first | exact PfOk.nil | (apply PfOk.keep; focus ((repeat constructor); done)) | (apply PfOk.dep; focus kernel_rfl))) ?_
    repeat (first | refine VY_d rfl ?_ | refine VY_h rfl (by repeat constructor) (by repeat (first | exact PfOk.nil | (apply PfOk.keep; focus ((repeat constructor); done)) | (apply PfOk.dep; focus kernel_rfl))) ?_)
    refine VY_hst rfl (HSt_slit1 (u := .st [.i .i64 e_0, .s e_1, .s e_2, .i .i64 e_3, .st [.i .i64 e_4_0, .s e_4_1, .sl 3 e_4_2], .sl 9 e_5, .sl 11 e_6]) (by repeat (first | exact rfl | constructor)) (by decide) TE.h TI.h TZ.h rfl rfl rfl (by repeat (first | exact rfl | constructor)) (by repeat (first | exact rfl | constructor))) (by repeat (first | exact PfOk.nil | (apply PfOk.keep; focus ((repeat constructor); done)) | (apply PfOk.dep; focus kernel_rfl))) ?_
    repeat (first | refine VY_d rfl ?_ | refine VY_h rfl (by repeat constructor) (by repeat (first | exact PfOk.nil | (apply PfOk.keep; focus ((repeat constructor); done)) | (apply PfOk.dep; focus kernel_rfl))) ?_)
    refine VY_hst rfl (HSt_append rfl rfl (.own rfl) (by decide) TE.h TI.h TZ.h rfl (by rw [big_eq, htk]; simp only [List.length_cons, List.length_nil]; omega) (by rw [htk]; simp only [List.length_cons, List.length_nil]; omega) rfl (by repeat (first | exact rfl | constructor)) (by repeat (first | exact rfl | constructor))) (by repeat (first | exact PfOk.nil | (apply PfOk.keep; focus ((repeat constructor); done)) | (apply PfOk.dep; focus kernel_rfl))) ?_
    rw [← hnext]
    repeat (first | refine VY_d rfl ?_ | refine VY_h rfl (by repeat constructor) (by repeat (first | exact PfOk.nil | (apply PfOk.keep; focus ((repeat constructor); done)) | (apply PfOk.dep; focus kernel_rfl))) ?_)
    refine VY_nil ?_
    repeat (first | refine VO_d ?_ | refine VQ_d ?_  | (first | refine VO_nil ?_ | refine VQ_nil ?_) | (first | refine V_seq_region ?_ | refine V_seq (V_seq_region ?_) | refine V_seq_draw tmix (by kernel_rfl) ?_ | refine V_seq (V_seq_draw tmix (by kernel_rfl) ?_) | refine V_region ?_ | refine V_draw tmix (by kernel_rfl) ?_))
    refine ⟨k + 1, by omega, by omega, ⟨rfl, ⟨⟨rfl, rfl⟩, ⟨rfl, rfl⟩, ⟨rfl, rfl⟩, ⟨rfl, rfl⟩, ⟨rfl, rfl⟩, ⟨rfl, rfl⟩, trivial⟩, ⟨_, rfl⟩, rfl⟩⟩
  refine V_exit ?_
  simp only [decide_eq_false_iff_not] at hc2
  have hkl : k = f7.length := by omega
  subst hkl
  clear hc2 hk
  show V _ _ _ _ _
  repeat (first | refine VO_d ?_ | refine VQ_d ?_  | (first | refine VO_nil ?_ | refine VQ_nil ?_) | (first | refine V_seq_region ?_ | refine V_seq (V_seq_region ?_) | refine V_seq_draw tmix (by kernel_rfl) ?_ | refine V_seq (V_seq_draw tmix (by kernel_rfl) ?_) | refine V_region ?_ | refine V_draw tmix (by kernel_rfl) ?_))
  refine V_cast [.box [.d (.i .i64 f0), .d (.s f1), .d (.s f2), .d (.i .i64 f3), .d (.i .i64 t0), .d (.s t1), .d (.sl 3 t2), .d (.sl 3 f5), .d (.sl 5 f6), .d (.sl 11 f7), .d (.sl 13 f8)], .box [.d (.i .i64 0), .d (.s []), .d (.s []), .d (.i .i64 0), .d (.i .i64 0), .d (.s []), .nilsl, .nilsl, .nilsl], .box [.d (.i .i64 f0), .d (.s f1), .d (.s f2), .d (.i .i64 f3), .d (.i .i64 0), .d (.s []), .sl 3 0, .sl 4 (es.length), .sl 5 (0)], .own 26 3 0 [], .own 71 9 (es.length) (es), .own 113 11 (0) ([])] (by rw [hl7, List.take_length]) ?_
  repeat (first | refine VO_d ?_ | refine VQ_d ?_  | (first | refine VO_nil ?_ | refine VQ_nil ?_) | (first | refine V_seq_region ?_ | refine V_seq (V_seq_region ?_) | refine V_seq_draw tmix (by kernel_rfl) ?_ | refine V_seq (V_seq_draw tmix (by kernel_rfl) ?_) | refine V_region ?_ | refine V_draw tmix (by kernel_rfl) ?_))
  refine V_block ?_
  refine V_loop (α := Nat)
    (fun k => ⟨[(1, .ptr 0 0), (2, .ptr 1 0), (3, .ptr 2 0), (33, .d (.sl 13 f8)), (34, .d (.i .i64 f8.length)), (35, .d (.i .i64 k))], [.box [.d (.i .i64 f0), .d (.s f1), .d (.s f2), .d (.i .i64 f3), .d (.i .i64 t0), .d (.s t1), .d (.sl 3 t2), .d (.sl 3 f5), .d (.sl 5 f6), .d (.sl 11 f7), .d (.sl 13 f8)], .box [.d (.i .i64 0), .d (.s []), .d (.s []), .d (.i .i64 0), .d (.i .i64 0), .d (.s []), .nilsl, .nilsl, .nilsl], .box [.d (.i .i64 f0), .d (.s f1), .d (.s f2), .d (.i .i64 f3), .d (.i .i64 0), .d (.s []), .sl 3 0, .sl 4 (es.length), .sl 5 (k)], .own 26 3 0 [], .own 71 9 (es.length) (es), .own 113 11 (k) (xs.take k)], Try.f25.ntmps⟩)
    (fun k => k ≤ f8.length)
    (fun k => f8.length - k) 0 ⟨rfl, ⟨⟨rfl, rfl⟩, ⟨rfl, rfl⟩, ⟨rfl, rfl⟩, ⟨rfl, rfl⟩, ⟨rfl, rfl⟩, ⟨rfl, rfl⟩, trivial⟩, ⟨[], rfl⟩, rfl⟩ (by simp) ?_
  intro k hk
  repeat (first | refine VO_d ?_ | refine VQ_d ?_  | (first | refine VO_nil ?_ | refine VQ_nil ?_) | (first | refine V_seq_region ?_ | refine V_seq (V_seq_region ?_) | refine V_seq_draw tmix (by kernel_rfl) ?_ | refine V_seq (V_seq_draw tmix (by kernel_rfl) ?_) | refine V_region ?_ | refine V_draw tmix (by kernel_rfl) ?_))
  (first | refine V_cond rfl (fun hc2 => ?_) (fun hc2 => ?_) | refine V_seq (V_cond rfl (fun hc2 => ?_) (fun hc2 => ?_)))
  · refine V_skip ?_
    simp only [decide_eq_true_eq] at hc2
    have hkl : k < f8.length := by omega
    obtain ⟨a, hget⟩ : ∃ a, f8[k]? = some a := ⟨_, List.getElem?_eq_getElem hkl⟩
    have hmem := List.mem_of_getElem? hget
    have hwk := W_le_of_mem hmem
    have htk : (xs.take k).length = k := by simp; omega
    obtain ⟨x, hge, c, vs, b, e, rfl, rfl, hcb, ⟨hvl, hvs⟩, hwb, hwe, hcall⟩ := h8.get k a hget
    have hWa : W (.st [.s c, .sl 1 vs, b]) = c.length + ((vs.length + Ws vs) + (W b + 0)) := rfl
    have hcall := hcall (by omega)
    have hnext := take_get hge
    have hnm := copyNames_all (by omega) hvs
    obtain ⟨s1, s2⟩ := strs_ok hvs
    have hv2 : vs.length ≤ 1048576 := by omega
    clear hWa
    obtain ⟨b_0, b_1, b_2, b_3, b_4, b_5, b_6, b_7, b_8, rfl, hwb_0, hwb_1, hwb_2, hwb_3, hwb_4, hwb_5, hwb_6, hwb_7, hwb_8⟩ := inv_Core hwb
    obtain ⟨b_4_0, b_4_1, b_4_2, rfl, hwb_4_0, hwb_4_1, hwb_4_2⟩ := inv_Type hwb_4
    obtain ⟨e_0, e_1, e_2, e_3, e_4, e_5, e_6, rfl, hwe_0, hwe_1, hwe_2, hwe_3, hwe_4, hwe_5, hwe_6⟩ := inv_Expr hwe
    obtain ⟨e_4_0, e_4_1, e_4_2, rfl, hwe_4_0, hwe_4_1, hwe_4_2⟩ := inv_Type hwe_4
    refine V_seq (V_block ?_)
    repeat (first | refine VO_d ?_ | (first | refine VO_q (Q_index rfl rfl TE.h TI.h (by omega) hget) rfl ?_ | refine VQ_q (Q_index rfl rfl TE.h TI.h (by omega) hget) rfl ?_ | (refine VO_bare rfl rfl rfl rfl ?_; refine VO_q (Q_index rfl rfl TE.h TI.h (by omega) hget) rfl ?_) | refine VQ_run rfl rfl rfl rfl (Q_index rfl rfl TE.h TI.h (by omega) hget) rfl ?_) | refine VO_nil ?_ | refine V_seq_region ?_ | refine V_seq (V_seq_region ?_))
    (first | refine V_seq_drawX tmix [(0, true), (1, true), (2, true), (3, true), (4, true), (5, true), (7, true), (8, true), (6, false), (9, false), (10, true), (11, false), (12, false), (13, true), (14, false)] (by kernel_rfl) ?_ | refine V_drawX tmix [(0, true), (1, true), (2, true), (3, true), (4, true), (5, true), (7, true), (8, true), (6, false), (9, false), (10, true), (11, false), (12, false), (13, true), (14, false)] (by kernel_rfl) ?_)
    repeat (first | refine VY_d rfl ?_ | refine VY_h rfl (by repeat constructor) (by repeat (first | exact PfOk.nil | (apply PfOk.keep; focus ((repeat constructor); done)) | (apply PfOk.dep; focus kernel_rfl))) ?_ | refine VY_index rfl rfl rfl TE.h TI.h (by omega) hget rfl ?_)
    refine VY_hst rfl (HSt_callO rfl hnm (by (repeat (first | exact trivial | exact rfl | exact ⟨_, rfl⟩ | refine And.intro ?_ ?_)); first | done | fail) (by repeat (first | exact rfl | constructor)) (by repeat (first | exact rfl | constructor)) (by repeat (first | exact rfl | constructor)) rfl) (by repeat (first | exact PfOk.nil | (apply PfOk.keep; focus ((repeat constructor); done)) | (apply PfOk.dep; focus kernel_rfl))) ?_
    repeat (first | refine VY_d rfl ?_ | refine VY_h rfl (by repeat constructor) (by repeat (first | exact PfOk.nil | (apply PfOk.keep; focus ((repeat constructor); done)) | (apply PfOk.dep; focus kernel_rfl))) ?_ | refine VY_index rfl rfl rfl TE.h TI.h (by omega) hget rfl ?_)
    refine VY_hst rfl (HSt_callO rfl hcall (by (repeat (first | exact trivial | exact rfl | exact ⟨_, rfl⟩ | refine And.intro ?_ ?_)); first | done | fail) (by repeat (first | exact rfl | constructor)) (by repeat (first | exact rfl | constructor)) (by repeat (first | exact rfl | constructor)) rfl) (by repeat (first | exact PfOk.nil | (apply PfOk.keep; focus ((repeat constructor); done)) | (apply PfOk.dep; focus kernel_rfl))) ?_
    repeat (first | refine VY_d rfl ?_ | refine VY_h rfl (by repeat constructor) (by repeat (first | exact PfOk.nil | (apply PfOk.keep; focus ((repeat constructor); done)) | (apply PfOk.dep; focus kernel_rfl))) ?_)
    refine VY_hst rfl (HSt_slit1 (u := .st [.s c, .sl 1 vs, .st [.i .i64 e_0, .s e_1, .s e_2, .i .i64 e_3, .st [.i .i64 e_4_0, .s e_4_1, .sl 3 e_4_2], .sl 9 e_5, .sl 11 e_6]]) (by repeat (first | exact rfl | constructor)) (by decide) TE.h TI.h TZ.h rfl rfl rfl (by repeat (first | exact rfl | constructor)) (by repeat (first | exact rfl | constructor))) (by repeat (first | exact PfOk.nil | (apply PfOk.keep; focus ((repeat constructor); done)) | (apply PfOk.dep; focus kernel_rfl))) ?_
    repeat (first | refine VY_d rfl ?_ | refine VY_h rfl (by repeat constructor) (by repeat (first | exact PfOk.nil | (apply PfOk.keep; focus ((repeat constructor); done)) | (apply PfOk.dep; focus kernel_rfl))) ?_)
    refine VY_hst rfl (HSt_append rfl rfl (.own rfl) (by decide) TE.h TI.h TZ.h rfl (by rw [big_eq, htk]; simp only [List.length_cons, List.length_nil]; omega) (by rw [htk]; simp only [List.length_cons, List.length_nil]; omega) rfl (by repeat (first | exact rfl | constructor)) (by repeat (first | exact rfl | constructor))) (by repeat (first | exact PfOk.nil | (apply PfOk.keep; focus ((repeat constructor); done)) | (apply PfOk.dep; focus kernel_rfl))) ?_
    rw [← hnext]
    repeat (first | refine VY_d rfl ?_ | refine VY_h rfl (by repeat constructor) (by repeat (first | exact PfOk.nil | (apply PfOk.keep; focus ((repeat constructor); done)) | (apply PfOk.dep; focus kernel_rfl))) ?_)
    refine VY_nil ?_
    repeat (first | refine VO_d ?_ | refine VQ_d ?_  | (first | refine VO_nil ?_ | refine VQ_nil ?_) | (first | refine V_seq_region ?_ | refine V_seq (V_seq_region ?_) | refine V_seq_draw tmix (by kernel_rfl) ?_ | refine V_seq (V_seq_draw tmix (by kernel_rfl) ?_) | refine V_region ?_ | refine V_draw tmix (by kernel_rfl) ?_))
    refine ⟨k + 1, by omega, by omega, ⟨rfl, ⟨⟨rfl, rfl⟩, ⟨rfl, rfl⟩, ⟨rfl, rfl⟩, ⟨rfl, rfl⟩, ⟨rfl, rfl⟩, ⟨rfl, rfl⟩, trivial⟩, ⟨_, rfl⟩, rfl⟩⟩
  refine V_exit ?_
  simp only [decide_eq_false_iff_not] at hc2
  have hkl : k = f8.length := by omega
  subst hkl
  clear hc2 hk
  show V _ _ _ _ _
  repeat (first | refine VO_d ?_ | refine VQ_d ?_  | (first | refine VO_nil ?_ | refine VQ_nil ?_) | (first | refine V_seq_region ?_ | refine V_seq (V_seq_region ?_) | refine V_seq_draw tmix (by kernel_rfl) ?_ | refine V_seq (V_seq_draw tmix (by kernel_rfl) ?_) | refine V_region ?_ | refine V_draw tmix (by kernel_rfl) ?_))
  refine V_cast (_ :: .box [.d (.i .i64 f0), .d (.s f1), .d (.s f2), .d (.i .i64 f3), .d (.i .i64 0), .d (.s []), .sl 3 0, .sl 4 (es.length), .sl 5 (xs.length)] :: [.box [.d (.i .i64 f0), .d (.s f1), .d (.s f2), .d (.i .i64 f3), .d (.i .i64 0), .d (.s []), .sl 3 0, .sl 4 (es.length), .sl 5 (xs.length)], .own 26 3 0 [], .own 71 9 (es.length) (es), .own 113 11 (xs.length) (xs)]) (by rw [hl8, List.take_length]) ?_
  refine V_ret ?_
  exact ⟨trivial, _, (by repeat (first | exact rfl | exact ResV_ag rfl rfl TI.h rfl rfl | exact ResV_one rfl rfl TI.h rfl | constructor)), by decide⟩

set_option maxHeartbeats 8000000 in
theorem specEr_step {f0 f3 t0 : Int} {f1 f2 t1 : List UInt8} {t2 f5 f6 f7 f8 es xs : List U} (h7 : All2 (QC 23) f7 es) (h8 : All2 (QA 23) f8 xs) : PEr 23 (.st [.i .i64 f0, .s f1, .s f2, .i .i64 f3, .st [.i .i64 t0, .s t1, .sl 3 t2], .sl 3 f5, .sl 5 f6, .sl 11 f7, .sl 13 f8]) (.st [.i .i64 f0, .s f1, .s f2, .i .i64 f3, .st [.i .i64 0, .s [], .sl 3 []], .sl 9 es, .sl 11 xs]) := by
  intro hw
  have hW : f7.length + Ws f7 ≤ 1048576 ∧ f8.length + Ws f8 ≤ 1048576 := by simp only [W, Ws] at hw; omega
  clear hw
  obtain ⟨hW7, hW8⟩ := hW
  have hl7 := h7.length
  have hl8 := h8.length
  refine SpecO_intro Try.func23 rfl (by kernel_rfl) rfl (by simp) fun A => ?_
  repeat (first | refine VO_d ?_ | refine VQ_d ?_ | (first | refine VO_q (Q_build TBd.h TZ.h rfl (by repeat constructor)) rfl ?_ | refine VQ_q (Q_build TBd.h TZ.h rfl (by repeat constructor)) rfl ?_ | (refine VO_bare rfl rfl rfl rfl ?_; refine VO_q (Q_build TBd.h TZ.h rfl (by repeat constructor)) rfl ?_) | refine VQ_run rfl rfl rfl rfl (Q_build TBd.h TZ.h rfl (by repeat constructor)) rfl ?_) | (first | refine VO_nil ?_ | refine VQ_nil ?_) | (first | refine V_seq_region ?_ | refine V_seq (V_seq_region ?_) | refine V_seq_draw tmix (by kernel_rfl) ?_ | refine V_seq (V_seq_draw tmix (by kernel_rfl) ?_) | refine V_region ?_ | refine V_draw tmix (by kernel_rfl) ?_))
  refine V_adopt 26 3 2 6 rfl rfl (by repeat constructor) (by repeat constructor) (by repeat constructor) (by repeat constructor) ?_
  refine V_adopt 71 9 2 7 rfl rfl (by repeat constructor) (by repeat constructor) (by repeat constructor) (by repeat constructor) ?_
  refine V_adopt 113 11 2 8 rfl rfl (by repeat constructor) (by repeat constructor) (by repeat constructor) (by repeat constructor) ?_
  repeat (first | refine VO_d ?_ | refine VQ_d ?_ | (first | refine VO_q (Q_build TBd.h TZ.h rfl (by repeat constructor)) rfl ?_ | refine VQ_q (Q_build TBd.h TZ.h rfl (by repeat constructor)) rfl ?_ | (refine VO_bare rfl rfl rfl rfl ?_; refine VO_q (Q_build TBd.h TZ.h rfl (by repeat constructor)) rfl ?_) | refine VQ_run rfl rfl rfl rfl (Q_build TBd.h TZ.h rfl (by repeat constructor)) rfl ?_) | (first | refine VO_nil ?_ | refine VQ_nil ?_) | (first | refine V_seq_region ?_ | refine V_seq (V_seq_region ?_) | refine V_seq_draw tmix (by kernel_rfl) ?_ | refine V_seq (V_seq_draw tmix (by kernel_rfl) ?_) | refine V_region ?_ | refine V_draw tmix (by kernel_rfl) ?_))
  refine V_block ?_
  refine V_loop (α := Nat)
    (fun k => ⟨[(1, .ptr 0 0), (2, .ptr 1 0), (3, .ptr 2 0), (4, .d (.i .i64 k))], [.box [.d (.i .i64 f0), .d (.s f1), .d (.s f2), .d (.i .i64 f3), .d (.i .i64 t0), .d (.s t1), .d (.sl 3 t2), .d (.sl 3 f5), .d (.sl 5 f6), .d (.sl 11 f7), .d (.sl 13 f8)], .box [.d (.i .i64 0), .d (.s []), .d (.s []), .d (.i .i64 0), .d (.i .i64 0), .d (.s []), .nilsl, .nilsl, .nilsl], .box [.d (.i .i64 f0), .d (.s f1), .d (.s f2), .d (.i .i64 f3), .d (.i .i64 0), .d (.s []), .sl 3 0, .sl 4 (k), .sl 5 (0)], .own 26 3 0 [], .own 71 9 (k) (es.take k), .own 113 11 (0) ([])], Try.f23.ntmps⟩)
    (fun k => k ≤ f7.length)
    (fun k => f7.length - k) 0 ⟨rfl, ⟨⟨rfl, rfl⟩, ⟨rfl, rfl⟩, ⟨rfl, rfl⟩, ⟨rfl, rfl⟩, trivial⟩, ⟨[], rfl⟩, rfl⟩ (by simp) ?_
  intro k hk
  repeat (first | refine VO_d ?_ | refine VQ_d ?_  | (first | refine VO_nil ?_ | refine VQ_nil ?_) | (first | refine V_seq_region ?_ | refine V_seq (V_seq_region ?_) | refine V_seq_draw tmix (by kernel_rfl) ?_ | refine V_seq (V_seq_draw tmix (by kernel_rfl) ?_) | refine V_region ?_ | refine V_draw tmix (by kernel_rfl) ?_))
  (first | refine V_cond rfl (fun hc2 => ?_) (fun hc2 => ?_) | refine V_seq (V_cond rfl (fun hc2 => ?_) (fun hc2 => ?_)))
  · refine V_skip ?_
    simp only [decide_eq_true_eq] at hc2
    have hkl : k < f7.length := by omega
    obtain ⟨a, hget⟩ : ∃ a, f7[k]? = some a := ⟨_, List.getElem?_eq_getElem hkl⟩
    have hmem := List.mem_of_getElem? hget
    have hwk := W_le_of_mem hmem
    have htk : (es.take k).length = k := by simp; omega
    obtain ⟨e, hge, hwa, hwe, hcall⟩ := h7.get k a hget
    have hcall := hcall (by omega)
    have hnext := take_get hge
    obtain ⟨a_0, a_1, a_2, a_3, a_4, a_5, a_6, a_7, a_8, rfl, hwa_0, hwa_1, hwa_2, hwa_3, hwa_4, hwa_5, hwa_6, hwa_7, hwa_8⟩ := inv_Core hwa
    obtain ⟨a_4_0, a_4_1, a_4_2, rfl, hwa_4_0, hwa_4_1, hwa_4_2⟩ := inv_Type hwa_4
    obtain ⟨e_0, e_1, e_2, e_3, e_4, e_5, e_6, rfl, hwe_0, hwe_1, hwe_2, hwe_3, hwe_4, hwe_5, hwe_6⟩ := inv_Expr hwe
    obtain ⟨e_4_0, e_4_1, e_4_2, rfl, hwe_4_0, hwe_4_1, hwe_4_2⟩ := inv_Type hwe_4
    refine V_seq (V_block ?_)
    repeat (first | refine VO_d ?_ | (first | refine VO_q (Q_index rfl rfl TE.h TI.h (by omega) hget) rfl ?_ | refine VQ_q (Q_index rfl rfl TE.h TI.h (by omega) hget) rfl ?_ | (refine VO_bare rfl rfl rfl rfl ?_; refine VO_q (Q_index rfl rfl TE.h TI.h (by omega) hget) rfl ?_) | refine VQ_run rfl rfl rfl rfl (Q_index rfl rfl TE.h TI.h (by omega) hget) rfl ?_) | refine VO_nil ?_ | refine V_seq_region ?_ | refine V_seq (V_seq_region ?_))
    (first | refine V_seq_drawX tmix [(0, true), (1, true), (2, true), (3, true), (4, true), (5, true), (6, true), (7, false), (8, false), (9, false), (10, true), (11, false)] (by kernel_rfl) ?_ | refine V_drawX tmix [(0, true), (1, true), (2, true), (3, true), (4, true), (5, true), (6, true), (7, false), (8, false), (9, false), (10, true), (11, false)] (by kernel_rfl) ?_)
    repeat (first | refine VY_d rfl ?_ | refine VY_h rfl (by repeat constructor) (by repeat (first | exact PfOk.nil | (apply PfOk.keep; focus ((repeat constructor); done)) | (apply PfOk.dep; focus kernel_rfl))) ?_ | refine VY_index rfl rfl rfl TE.h TI.h (by omega) hget rfl ?_)
    refine VY_hst rfl (HSt_callO rfl hcall (by (repeat (first | exact trivial | exact rfl | exact ⟨_, rfl⟩ | refine And.intro ?_ ?_)); first | done | fail) (by repeat (first | exact rfl | constructor)) (by repeat (first | exact rfl | constructor)) (by repeat (first | exact rfl | constructor)) rfl) (by repeat (first | exact PfOk.nil | (apply PfOk.keep; focus ((repeat constructor); done)) | (apply PfOk.dep; focus kernel_rfl))) ?_
    repeat (first | refine VY_d rfl ?_ | refine VY_h rfl (by repeat constructor) (by repeat (first | exact PfOk.nil | (apply PfOk.keep; focus ((repeat constructor); done)) | (apply PfOk.dep; focus kernel_rfl))) ?_)
    refine VY_hst rfl (HSt_slit1 (u := .st [.i .i64 e_0, .s e_1, .s e_2, .i .i64 e_3, .st [.i .i64 e_4_0, .s e_4_1, .sl 3 e_4_2], .sl 9 e_5, .sl 11 e_6]) (by repeat (first | exact rfl | constructor)) (by decide) TE.h TI.h TZ.h rfl rfl rfl (by repeat (first | exact rfl | constructor)) (by repeat (first | exact rfl | constructor))) (by repeat (first | exact PfOk.nil | (apply PfOk.keep; focus ((repeat constructor); done)) | (apply PfOk.dep; focus kernel_rfl))) ?_
    repeat (first | refine VY_d rfl ?_ | refine VY_h rfl (by repeat constructor) (by repeat (first | exact PfOk.nil | (apply PfOk.keep; focus ((repeat constructor); done)) | (apply PfOk.dep; focus kernel_rfl))) ?_)
    refine VY_hst rfl (HSt_append rfl rfl (.own rfl) (by decide) TE.h TI.h TZ.h rfl (by rw [big_eq, htk]; simp only [List.length_cons, List.length_nil]; omega) (by rw [htk]; simp only [List.length_cons, List.length_nil]; omega) rfl (by repeat (first | exact rfl | constructor)) (by repeat (first | exact rfl | constructor))) (by repeat (first | exact PfOk.nil | (apply PfOk.keep; focus ((repeat constructor); done)) | (apply PfOk.dep; focus kernel_rfl))) ?_
    rw [← hnext]
    repeat (first | refine VY_d rfl ?_ | refine VY_h rfl (by repeat constructor) (by repeat (first | exact PfOk.nil | (apply PfOk.keep; focus ((repeat constructor); done)) | (apply PfOk.dep; focus kernel_rfl))) ?_)
    refine VY_nil ?_
    repeat (first | refine VO_d ?_ | refine VQ_d ?_  | (first | refine VO_nil ?_ | refine VQ_nil ?_) | (first | refine V_seq_region ?_ | refine V_seq (V_seq_region ?_) | refine V_seq_draw tmix (by kernel_rfl) ?_ | refine V_seq (V_seq_draw tmix (by kernel_rfl) ?_) | refine V_region ?_ | refine V_draw tmix (by kernel_rfl) ?_))
    refine ⟨k + 1, by omega, by omega, ⟨rfl, ⟨⟨rfl, rfl⟩, ⟨rfl, rfl⟩, ⟨rfl, rfl⟩, ⟨rfl, rfl⟩, trivial⟩, ⟨_, rfl⟩, rfl⟩⟩
  refine V_exit ?_
  simp only [decide_eq_false_iff_not] at hc2
  have hkl : k = f7.length := by omega
  subst hkl
  clear hc2 hk
  show V _ _ _ _ _
  repeat (first | refine VO_d ?_ | refine VQ_d ?_  | (first | refine VO_nil ?_ | refine VQ_nil ?_) | (first | refine V_seq_region ?_ | refine V_seq (V_seq_region ?_) | refine V_seq_draw tmix (by kernel_rfl) ?_ | refine V_seq (V_seq_draw tmix (by kernel_rfl) ?_) | refine V_region ?_ | refine V_draw tmix (by kernel_rfl) ?_))
  refine V_cast [.box [.d (.i .i64 f0), .d (.s f1), .d (.s f2), .d (.i .i64 f3), .d (.i .i64 t0), .d (.s t1), .d (.sl 3 t2), .d (.sl 3 f5), .d (.sl 5 f6), .d (.sl 11 f7), .d (.sl 13 f8)], .box [.d (.i .i64 0), .d (.s []), .d (.s []), .d (.i .i64 0), .d (.i .i64 0), .d (.s []), .nilsl, .nilsl, .nilsl], .box [.d (.i .i64 f0), .d (.s f1), .d (.s f2), .d (.i .i64 f3), .d (.i .i64 0), .d (.s []), .sl 3 0, .sl 4 (es.length), .sl 5 (0)], .own 26 3 0 [], .own 71 9 (es.length) (es), .own 113 11 (0) ([])] (by rw [hl7, List.take_length]) ?_
  repeat (first | refine VO_d ?_ | refine VQ_d ?_  | (first | refine VO_nil ?_ | refine VQ_nil ?_) | (first | refine V_seq_region ?_ | refine V_seq (V_seq_region ?_) | refine V_seq_draw tmix (by kernel_rfl) ?_ | refine V_seq (V_seq_draw tmix (by kernel_rfl) ?_) | refine V_region ?_ | refine V_draw tmix (by kernel_rfl) ?_))
  refine V_block ?_
  refine V_loop (α := Nat)
    (fun k => ⟨[(1, .ptr 0 0), (2, .ptr 1 0), (3, .ptr 2 0), (5, .d (.i .i64 k))], [.box [.d (.i .i64 f0), .d (.s f1), .d (.s f2), .d (.i .i64 f3), .d (.i .i64 t0), .d (.s t1), .d (.sl 3 t2), .d (.sl 3 f5), .d (.sl 5 f6), .d (.sl 11 f7), .d (.sl 13 f8)], .box [.d (.i .i64 0), .d (.s []), .d (.s []), .d (.i .i64 0), .d (.i .i64 0), .d (.s []), .nilsl, .nilsl, .nilsl], .box [.d (.i .i64 f0), .d (.s f1), .d (.s f2), .d (.i .i64 f3), .d (.i .i64 0), .d (.s []), .sl 3 0, .sl 4 (es.length), .sl 5 (k)], .own 26 3 0 [], .own 71 9 (es.length) (es), .own 113 11 (k) (xs.take k)], Try.f23.ntmps⟩)
    (fun k => k ≤ f8.length)
    (fun k => f8.length - k) 0 ⟨rfl, ⟨⟨rfl, rfl⟩, ⟨rfl, rfl⟩, ⟨rfl, rfl⟩, ⟨rfl, rfl⟩, trivial⟩, ⟨[], rfl⟩, rfl⟩ (by simp) ?_
  intro k hk
  repeat (first | refine VO_d ?_ | refine VQ_d ?_  | (first | refine VO_nil ?_ | refine VQ_nil ?_) | (first | refine V_seq_region ?_ | refine V_seq (V_seq_region ?_) | refine V_seq_draw tmix (by kernel_rfl) ?_ | refine V_seq (V_seq_draw tmix (by kernel_rfl) ?_) | refine V_region ?_ | refine V_draw tmix (by kernel_rfl) ?_))
  (first | refine V_cond rfl (fun hc2 => ?_) (fun hc2 => ?_) | refine V_seq (V_cond rfl (fun hc2 => ?_) (fun hc2 => ?_)))
  · refine V_skip ?_
    simp only [decide_eq_true_eq] at hc2
    have hkl : k < f8.length := by omega
    obtain ⟨a, hget⟩ : ∃ a, f8[k]? = some a := ⟨_, List.getElem?_eq_getElem hkl⟩
    have hmem := List.mem_of_getElem? hget
    have hwk := W_le_of_mem hmem
    have htk : (xs.take k).length = k := by simp; omega
    obtain ⟨x, hge, c, vs, b, e, rfl, rfl, hcb, ⟨hvl, hvs⟩, hwb, hwe, hcall⟩ := h8.get k a hget
    have hWa : W (.st [.s c, .sl 1 vs, b]) = c.length + ((vs.length + Ws vs) + (W b + 0)) := rfl
    have hcall := hcall (by omega)
    have hnext := take_get hge
    have hnm := copyNames_all (by omega) hvs
    obtain ⟨s1, s2⟩ := strs_ok hvs
    have hv2 : vs.length ≤ 1048576 := by omega
    clear hWa
    obtain ⟨b_0, b_1, b_2, b_3, b_4, b_5, b_6, b_7, b_8, rfl, hwb_0, hwb_1, hwb_2, hwb_3, hwb_4, hwb_5, hwb_6, hwb_7, hwb_8⟩ := inv_Core hwb
    obtain ⟨b_4_0, b_4_1, b_4_2, rfl, hwb_4_0, hwb_4_1, hwb_4_2⟩ := inv_Type hwb_4
    obtain ⟨e_0, e_1, e_2, e_3, e_4, e_5, e_6, rfl, hwe_0, hwe_1, hwe_2, hwe_3, hwe_4, hwe_5, hwe_6⟩ := inv_Expr hwe
    obtain ⟨e_4_0, e_4_1, e_4_2, rfl, hwe_4_0, hwe_4_1, hwe_4_2⟩ := inv_Type hwe_4
    refine V_seq (V_block ?_)
    repeat (first | refine VO_d ?_ | (first | refine VO_q (Q_index rfl rfl TE.h TI.h (by omega) hget) rfl ?_ | refine VQ_q (Q_index rfl rfl TE.h TI.h (by omega) hget) rfl ?_ | (refine VO_bare rfl rfl rfl rfl ?_; refine VO_q (Q_index rfl rfl TE.h TI.h (by omega) hget) rfl ?_) | refine VQ_run rfl rfl rfl rfl (Q_index rfl rfl TE.h TI.h (by omega) hget) rfl ?_) | refine VO_nil ?_ | refine V_seq_region ?_ | refine V_seq (V_seq_region ?_))
    (first | refine V_seq_drawX tmix [(0, true), (1, true), (2, true), (3, true), (4, true), (5, true), (6, true), (7, true), (9, true), (10, true), (11, true), (12, true), (13, true), (14, true), (16, true), (17, true), (18, true), (19, true), (20, true), (21, true), (8, false), (15, false), (22, false), (23, true), (24, false), (25, false), (26, true), (27, false)] (by kernel_rfl) ?_ | refine V_drawX tmix [(0, true), (1, true), (2, true), (3, true), (4, true), (5, true), (6, true), (7, true), (9, true), (10, true), (11, true), (12, true), (13, true), (14, true), (16, true), (17, true), (18, true), (19, true), (20, true), (21, true), (8, false), (15, false), (22, false), (23, true), (24, false), (25, false), (26, true), (27, false)] (by kernel_rfl) ?_)
    repeat (first | refine VY_d rfl ?_ | refine VY_h rfl (by repeat constructor) (by repeat (first | exact PfOk.nil | (apply PfOk.keep; focus ((repeat constructor); done)) | (apply PfOk.dep; focus kernel_rfl))) ?_ | refine VY_index rfl rfl rfl TE.h TI.h (by omega) hget rfl ?_)
    refine VY_hst rfl (HSt_slit0 TE.h TI.h rfl (by repeat (first | exact rfl | constructor))) (by repeat (first | exact PfOk.nil | (apply PfOk.keep; focus ((repeat constructor); done)) | (apply PfOk.dep; focus kernel_rfl))) ?_
    repeat (first | refine VY_d rfl ?_ | refine VY_h rfl (by repeat constructor) (by repeat (first | exact PfOk.nil | (apply PfOk.keep; focus ((repeat constructor); done)) | (apply PfOk.dep; focus kernel_rfl))) ?_ | refine VY_index rfl rfl rfl TE.h TI.h (by omega) hget rfl ?_)
    refine VY_hst rfl (HSt_append rfl rfl (.data s1 s2) (by decide) TE.h TI.h TZ.h rfl (by rw [big_eq]; simp only [List.length_nil]; omega) (by simp only [List.length_nil]; omega) rfl (by repeat (first | exact rfl | constructor)) (by repeat (first | exact rfl | constructor))) (by repeat (first | exact PfOk.nil | (apply PfOk.keep; focus ((repeat constructor); done)) | (apply PfOk.dep; focus kernel_rfl))) ?_
    repeat (first | refine VY_d rfl ?_ | refine VY_h rfl (by repeat constructor) (by repeat (first | exact PfOk.nil | (apply PfOk.keep; focus ((repeat constructor); done)) | (apply PfOk.dep; focus kernel_rfl))) ?_ | refine VY_index rfl rfl rfl TE.h TI.h (by omega) hget rfl ?_)
    refine VY_hst rfl (HSt_callO rfl hcall (by (repeat (first | exact trivial | exact rfl | exact ⟨_, rfl⟩ | refine And.intro ?_ ?_)); first | done | fail) (by repeat (first | exact rfl | constructor)) (by repeat (first | exact rfl | constructor)) (by repeat (first | exact rfl | constructor)) rfl) (by repeat (first | exact PfOk.nil | (apply PfOk.keep; focus ((repeat constructor); done)) | (apply PfOk.dep; focus kernel_rfl))) ?_
    repeat (first | refine VY_d rfl ?_ | refine VY_h rfl (by repeat constructor) (by repeat (first | exact PfOk.nil | (apply PfOk.keep; focus ((repeat constructor); done)) | (apply PfOk.dep; focus kernel_rfl))) ?_)
    refine VY_hst rfl (HSt_slit1 (u := .st [.s c, .sl 1 vs, .st [.i .i64 e_0, .s e_1, .s e_2, .i .i64 e_3, .st [.i .i64 e_4_0, .s e_4_1, .sl 3 e_4_2], .sl 9 e_5, .sl 11 e_6]]) (by repeat (first | exact rfl | constructor)) (by decide) TE.h TI.h TZ.h rfl rfl rfl (by repeat (first | exact rfl | constructor)) (by repeat (first | exact rfl | constructor))) (by repeat (first | exact PfOk.nil | (apply PfOk.keep; focus ((repeat constructor); done)) | (apply PfOk.dep; focus kernel_rfl))) ?_
    repeat (first | refine VY_d rfl ?_ | refine VY_h rfl (by repeat constructor) (by repeat (first | exact PfOk.nil | (apply PfOk.keep; focus ((repeat constructor); done)) | (apply PfOk.dep; focus kernel_rfl))) ?_)
    refine VY_hst rfl (HSt_append rfl rfl (.own rfl) (by decide) TE.h TI.h TZ.h rfl (by rw [big_eq, htk]; simp only [List.length_cons, List.length_nil]; omega) (by rw [htk]; simp only [List.length_cons, List.length_nil]; omega) rfl (by repeat (first | exact rfl | constructor)) (by repeat (first | exact rfl | constructor))) (by repeat (first | exact PfOk.nil | (apply PfOk.keep; focus ((repeat constructor); done)) | (apply PfOk.dep; focus kernel_rfl))) ?_
    rw [← hnext]
    repeat (first | refine VY_d rfl ?_ | refine VY_h rfl (by repeat constructor) (by repeat (first | exact PfOk.nil | (apply PfOk.keep; focus ((repeat constructor); done)) | (apply PfOk.dep; focus kernel_rfl))) ?_)
    refine VY_nil ?_
    repeat (first | refine VO_d ?_ | refine VQ_d ?_  | (first | refine VO_nil ?_ | refine VQ_nil ?_) | (first | refine V_seq_region ?_ | refine V_seq (V_seq_region ?_) | refine V_seq_draw tmix (by kernel_rfl) ?_ | refine V_seq (V_seq_draw tmix (by kernel_rfl) ?_) | refine V_region ?_ | refine V_draw tmix (by kernel_rfl) ?_))
    refine ⟨k + 1, by omega, by omega, ⟨rfl, ⟨⟨rfl, rfl⟩, ⟨rfl, rfl⟩, ⟨rfl, rfl⟩, ⟨rfl, rfl⟩, trivial⟩, ⟨_, rfl⟩, rfl⟩⟩
  refine V_exit ?_
  simp only [decide_eq_false_iff_not] at hc2
  have hkl : k = f8.length := by omega
  subst hkl
  clear hc2 hk
  show V _ _ _ _ _
  repeat (first | refine VO_d ?_ | refine VQ_d ?_  | (first | refine VO_nil ?_ | refine VQ_nil ?_) | (first | refine V_seq_region ?_ | refine V_seq (V_seq_region ?_) | refine V_seq_draw tmix (by kernel_rfl) ?_ | refine V_seq (V_seq_draw tmix (by kernel_rfl) ?_) | refine V_region ?_ | refine V_draw tmix (by kernel_rfl) ?_))
  refine V_cast (_ :: .box [.d (.i .i64 f0), .d (.s f1), .d (.s f2), .d (.i .i64 f3), .d (.i .i64 0), .d (.s []), .sl 3 0, .sl 4 (es.length), .sl 5 (xs.length)] :: [.box [.d (.i .i64 f0), .d (.s f1), .d (.s f2), .d (.i .i64 f3), .d (.i .i64 0), .d (.s []), .sl 3 0, .sl 4 (es.length), .sl 5 (xs.length)], .own 26 3 0 [], .own 71 9 (es.length) (es), .own 113 11 (xs.length) (xs)]) (by rw [hl8, List.take_length]) ?_
  refine V_ret ?_
  exact ⟨trivial, _, (by repeat (first | exact rfl | exact ResV_ag rfl rfl TI.h rfl rfl | exact ResV_one rfl rfl TI.h rfl | constructor)), by decide⟩

abbrev RC (u e : U) : Prop := wt (.st 21) u ∧ wt (.st 4) e ∧ W e ≤ W u ∧ PEr 25 u e ∧ PEr 23 u e
abbrev RA (a x : U) : Prop := wt (.st 3) x ∧ W x ≤ W a ∧ QA 25 a x ∧ QA 23 a x
theorem exl {Q : U → U → Prop} : ∀ {us : List U}, (∀ a ∈ us, ∃ e, Q a e) → ∃ es, All2 Q us es
  | [], _ => ⟨[], trivial⟩
  | a :: us, h => by
    obtain ⟨e, h1⟩ := h a (by simp)
    obtain ⟨es, h2⟩ := exl (us := us) (fun a ha => h a (by simp [ha]))
    exact ⟨e :: es, h1, h2⟩
theorem all2_ws {Q : U → U → Prop} (hq : ∀ a e, Q a e → W e ≤ W a) : ∀ {us es : List U}, All2 Q us es → Ws es ≤ Ws us
  | [], [], _ => Nat.le_refl _
  | a :: us, e :: es, h => by
    have h1 := hq a e h.1
    have h2 := all2_ws hq h.2
    simp only [Ws]
    omega
theorem all2_mem {Q : U → U → Prop} {s : Sh} (hq : ∀ a e, Q a e → wt s e) : ∀ {us es : List U}, All2 Q us es → ∀ e ∈ es, wt s e
  | [], [], _ => by simp
  | a :: us, e :: es, h => fun x hx => by
    rcases List.mem_cons.1 hx with rfl | hx
    · exact hq a x h.1
    · exact all2_mem hq h.2 x hx
theorem er_all (u : U) : wt (.st 21) u → ∃ e, RC u e := by
  refine U.ind (M := fun u => wt (.st 21) u → ∃ e, RC u e) (fun u ih h => ?_) u
  obtain ⟨f0, f1, f2, f3, f4, f5, f6, f7, f8, rfl, p0, p1, p2, p3, p4, p5, p6, p7, p8⟩ := inv_Core h
  obtain ⟨t0, t1, t2, rfl, _⟩ := inv_Type p4
  have hI : ∀ a ∈ f7, ∃ e, RC a e := fun a ha => ih a (by have := nn_of_mem ha; simp only [U.nn, U.nns]; omega) (p7.2 a ha)
  have hJ : ∀ a ∈ f8, ∃ x, RA a x := fun a ha => by
    obtain ⟨c, vs, b, rfl, y0, y1, y2⟩ := inv_CoreArm (p8.2 a ha)
    obtain ⟨e, e1, e2, e3, e4, e5⟩ := ih b (by have := nn_of_mem ha; simp only [U.nn, U.nns] at this ⊢; omega) y2
    refine ⟨.st [.s c, .sl 1 vs, e], ⟨y0, ⟨rfl, y1.1, wta_iff.2 y1.2⟩, e2, trivial⟩, ?_, ⟨c, vs, b, e, rfl, rfl, y0, y1, e1, e2, e4⟩, ⟨c, vs, b, e, rfl, rfl, y0, y1, e1, e2, e5⟩⟩
    simp only [W, Ws]
    omega
  obtain ⟨es, h7⟩ := exl hI
  obtain ⟨xs, h8⟩ := exl hJ
  have a1 := all2_ws (fun a e h => h.2.2.1) h7
  have a2 := all2_ws (fun a e h => h.2.1) h8
  have b1 := all2_mem (s := .st 4) (fun a e h => h.2.1) h7
  have b2 := all2_mem (s := .st 3) (fun a e h => h.1) h8
  have l1 := h7.length
  have l2 := h8.length
  refine ⟨.st [.i .i64 f0, .s f1, .s f2, .i .i64 f3, .st [.i .i64 0, .s [], .sl 3 []], .sl 9 es, .sl 11 xs], h, ⟨⟨rfl, p0⟩, p1, p2, ⟨rfl, p3⟩, ⟨⟨rfl, by simp [inRange]⟩, by simp [wt], ⟨rfl, by simp, trivial⟩, trivial⟩, ⟨rfl, by have := p7.1; omega, wta_iff.2 b1⟩, ⟨rfl, by have := p8.1; omega, wta_iff.2 b2⟩, trivial⟩, ?_, implEr_step (h7.mono (fun a e _ h => ⟨h.1, h.2.1, h.2.2.2.1⟩)) (h8.mono (fun a e _ h => h.2.2.1)), specEr_step (h7.mono (fun a e _ h => ⟨h.1, h.2.1, h.2.2.2.2⟩)) (h8.mono (fun a e _ h => h.2.2.2))⟩
  simp only [W, Ws, List.length_nil]
  omega
theorem bothEr {u : U} (h : wt (.st 21) u) : ∃ r0, wt (.st 4) r0 ∧ (W u ≤ 1048576 → SpecP Try.prog 23 [.d u] [r0] ∧ SpecO Try.prog 25 [.d u] [26, 71, 113] [r0] ∧ W r0 ≤ 1048576) := by
  obtain ⟨e, h1, h2, h3, h4, h5⟩ := er_all u h
  exact ⟨e, h2, fun hw => ⟨(h5 hw).p, h4 hw, by omega⟩⟩

end Go.Proofs.Ytjckkahiapjkfaa
