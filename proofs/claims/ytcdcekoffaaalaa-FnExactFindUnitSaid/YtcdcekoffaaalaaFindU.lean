/- FindTable, FindSpecialization. Written by a program of mine. -/
import Derived.Test.YtcdcekoffaaalaaFamU
import Derived.Test.YtcdcekoffaaalaaEng14
set_option linter.unusedVariables false
set_option linter.unusedSimpArgs false
namespace Go.Proofs.Ytcdcekoffaaalaa
open Go Go.Eng
attribute [local irreducible] V VO VQ Quiet SpecP

set_option maxHeartbeats 4000000 in
theorem indexFunc_Unit {fi : Nat} {caps : List SV} {p : U → Bool} {us : List U} (hb1 : us.length ≤ big) (hw : ∀ a ∈ us, wt (.st 25) a) (hcap : SV.lts 0 caps = true) (ih : ∀ a ∈ us, SpecP Try.prog fi (.d a :: caps) [.b (p a)]) :
    SpecP Try.prog 62 [.d (.sl 21 us), .fn fi caps] [.i .i64 (fidx p us)] := by
  rw [big_eq] at hb1
  refine SpecP_intro Try.func62 rfl (by kernel_rfl) rfl fun A => ?_
  repeat (first | refine VO_d ?_ | refine VQ_d ?_  | (first | refine VO_nil ?_ | refine VQ_nil ?_) | (first | refine V_seq_region ?_ | refine V_seq (V_seq_region ?_) | refine V_seq_draw tmix (by kernel_rfl) ?_ | refine V_seq (V_seq_draw tmix (by kernel_rfl) ?_) | refine V_region ?_ | refine V_draw tmix (by kernel_rfl) ?_))
  refine V_block ?_
  refine V_loop (α := Nat)
    (fun k => ⟨[(0, .d (.sl 21 us)), (1, .fn fi caps), (7, .d (.i .i64 us.length)), (8, .d (.i .i64 k))], [], Try.f62.ntmps⟩)
    (fun k => k ≤ us.length ∧ ∀ j b, j < k → us[j]? = some b → p b = false)
    (fun k => us.length - k) 0 ⟨rfl, ⟨⟨rfl, rfl⟩, ⟨rfl, hcap⟩, ⟨rfl, rfl⟩, ⟨rfl, rfl⟩, trivial⟩, ⟨[], rfl⟩, rfl⟩ ⟨by simp, by simp⟩ ?_
  rintro k ⟨hk, hsame⟩
  repeat (first | refine VO_d ?_ | refine VQ_d ?_  | (first | refine VO_nil ?_ | refine VQ_nil ?_) | (first | refine V_seq_region ?_ | refine V_seq (V_seq_region ?_) | refine V_seq_draw tmix (by kernel_rfl) ?_ | refine V_seq (V_seq_draw tmix (by kernel_rfl) ?_) | refine V_region ?_ | refine V_draw tmix (by kernel_rfl) ?_))
  (first | refine V_cond rfl (fun hc2 => ?_) (fun hc2 => ?_) | refine V_seq (V_cond rfl (fun hc2 => ?_) (fun hc2 => ?_)))
  · refine V_skip ?_
    simp only [decide_eq_true_eq] at hc2
    obtain ⟨a, hget⟩ : ∃ a, us[k]? = some a := ⟨_, List.getElem?_eq_getElem (by omega)⟩
    have hma := List.mem_of_getElem? hget
    have hwa := hw a hma
    have hcall := ih a hma
    obtain ⟨r, hr⟩ : ∃ r, p a = r := ⟨_, rfl⟩
    rw [hr] at hcall
    refine V_seq (V_block ?_)
    repeat (first | refine VO_d ?_ | refine VQ_d ?_ | (first | refine VO_q (Q_index rfl rfl TE.h TI.h (by omega) hget) rfl ?_ | refine VQ_q (Q_index rfl rfl TE.h TI.h (by omega) hget) rfl ?_ | (refine VO_bare rfl rfl rfl rfl ?_; refine VO_q (Q_index rfl rfl TE.h TI.h (by omega) hget) rfl ?_) | refine VQ_run rfl rfl rfl rfl (Q_index rfl rfl TE.h TI.h (by omega) hget) rfl ?_) | (first | refine VO_q (Q_load rfl TI.h (wt_isSt hwa) (wt_sz _ _ hwa)) rfl ?_ | refine VQ_q (Q_load rfl TI.h (wt_isSt hwa) (wt_sz _ _ hwa)) rfl ?_ | (refine VO_bare rfl rfl rfl rfl ?_; refine VO_q (Q_load rfl TI.h (wt_isSt hwa) (wt_sz _ _ hwa)) rfl ?_) | refine VQ_run rfl rfl rfl rfl (Q_load rfl TI.h (wt_isSt hwa) (wt_sz _ _ hwa)) rfl ?_) | (first | refine VO_q (Q_callc (dargs := [.d a]) rfl hcall (by repeat (first | exact trivial | exact rfl | exact ⟨_, rfl⟩ | refine And.intro ?_ ?_)) hcap) rfl ?_ | refine VQ_q (Q_callc (dargs := [.d a]) rfl hcall (by repeat (first | exact trivial | exact rfl | exact ⟨_, rfl⟩ | refine And.intro ?_ ?_)) hcap) rfl ?_ | (refine VO_bare rfl rfl rfl rfl ?_; refine VO_q (Q_callc (dargs := [.d a]) rfl hcall (by repeat (first | exact trivial | exact rfl | exact ⟨_, rfl⟩ | refine And.intro ?_ ?_)) hcap) rfl ?_) | refine VQ_run rfl rfl rfl rfl (Q_callc (dargs := [.d a]) rfl hcall (by repeat (first | exact trivial | exact rfl | exact ⟨_, rfl⟩ | refine And.intro ?_ ?_)) hcap) rfl ?_) | (first | refine VO_nil ?_ | refine VQ_nil ?_) | (first | refine V_seq_region ?_ | refine V_seq (V_seq_region ?_) | refine V_seq_draw tmix (by kernel_rfl) ?_ | refine V_seq (V_seq_draw tmix (by kernel_rfl) ?_) | refine V_region ?_ | refine V_draw tmix (by kernel_rfl) ?_))
    (first | refine V_cond rfl (fun hc3 => ?_) (fun hc3 => ?_) | refine V_seq (V_cond rfl (fun hc3 => ?_) (fun hc3 => ?_)))
    · repeat (first | refine VO_d ?_ | refine VQ_d ?_  | (first | refine VO_nil ?_ | refine VQ_nil ?_) | (first | refine V_seq_region ?_ | refine V_seq (V_seq_region ?_) | refine V_seq_draw tmix (by kernel_rfl) ?_ | refine V_seq (V_seq_draw tmix (by kernel_rfl) ?_) | refine V_region ?_ | refine V_draw tmix (by kernel_rfl) ?_))
      refine V_ret ?_
      exact ⟨trivial, ⟨_, rfl, congrArg (U.i .i64) (fidx_hit hget (by rw [hr]; exact hc3) hsame).symm⟩, trivial⟩
    refine V_skip ?_
    repeat (first | refine VO_d ?_ | refine VQ_d ?_  | (first | refine VO_nil ?_ | refine VQ_nil ?_) | (first | refine V_seq_region ?_ | refine V_seq (V_seq_region ?_) | refine V_seq_draw tmix (by kernel_rfl) ?_ | refine V_seq (V_seq_draw tmix (by kernel_rfl) ?_) | refine V_region ?_ | refine V_draw tmix (by kernel_rfl) ?_))
    refine ⟨k + 1, ⟨by omega, fun j b hj hb => ?_⟩, by omega, ⟨rfl, ⟨⟨rfl, rfl⟩, ⟨rfl, hcap⟩, ⟨rfl, rfl⟩, ⟨rfl, rfl⟩, trivial⟩, ⟨_, rfl⟩, rfl⟩⟩
    by_cases hjk : j = k
    · subst hjk; rw [hget] at hb; cases hb; rw [hr]; exact hc3
    · exact hsame j b (by omega) hb
  · refine V_exit ?_
    simp only [decide_eq_false_iff_not] at hc2
    have hkl : k = us.length := by omega
    subst hkl
    show V _ _ _ _ _
    repeat (first | refine VO_d ?_ | refine VQ_d ?_  | (first | refine VO_nil ?_ | refine VQ_nil ?_) | (first | refine V_seq_region ?_ | refine V_seq (V_seq_region ?_) | refine V_seq_draw tmix (by kernel_rfl) ?_ | refine V_seq (V_seq_draw tmix (by kernel_rfl) ?_) | refine V_region ?_ | refine V_draw tmix (by kernel_rfl) ?_))
    refine V_ret ?_
    exact ⟨trivial, ⟨_, rfl, congrArg (U.i .i64) (fidx_none hsame).symm⟩, trivial⟩

def pFU (s0 s1 s2 s3 : Int) : U → Bool
  | .st (.i _ x0 :: .i _ x1 :: .i _ x2 :: .i _ x3 :: _) => x0 == s0 && x1 == s1 && x2 == s2 && x3 == s3
  | _ => false

set_option maxHeartbeats 4000000 in
theorem implFU1 {x0 : Int} {x1 : Int} {x2 : Int} {x3 : Int} {x4 : List U} {x5 : List U} {x6 : List U} {x7 : U} {x8 : U} {s0 s1 s2 s3 : Int} (g7 : wt (.st 1) x7) (g8 : wt (.st 21) x8) : SpecP Try.prog 63 [.d (.st [.i .i64 x0, .i .i64 x1, .i .i64 x2, .i .i64 x3, .sl 1 x4, .sl 4 x5, .sl 4 x6, x7, x8]), .dp (.i .i64 s0), .dp (.i .i64 s1), .dp (.i .i64 s2), .dp (.i .i64 s3)] [.b (x0 == s0 && x1 == s1 && x2 == s2 && x3 == s3)] := by
  obtain ⟨x7_0, x7_1, x7_2, rfl, g7_0, g7_1, g7_2⟩ := inv_Type g7
  obtain ⟨x8_0, x8_1, x8_2, x8_3, x8_4, x8_5, x8_6, x8_7, x8_8, rfl, g8_0, g8_1, g8_2, g8_3, g8_4, g8_5, g8_6, g8_7, g8_8⟩ := inv_Core g8
  obtain ⟨x8_4_0, x8_4_1, x8_4_2, rfl, g8_4_0, g8_4_1, g8_4_2⟩ := inv_Type g8_4
  refine SpecP_intro Try.func63 rfl (by kernel_rfl) rfl fun A => ?_
  repeat (first | refine VO_d ?_ | refine VQ_d ?_  | (first | refine VO_nil ?_ | refine VQ_nil ?_) | (first | refine V_seq_region ?_ | refine V_seq (V_seq_region ?_) | refine V_seq_draw tmix (by kernel_rfl) ?_ | refine V_seq (V_seq_draw tmix (by kernel_rfl) ?_) | refine V_region ?_ | refine V_draw tmix (by kernel_rfl) ?_))
  cases k0 : (x0 == s0)
  · skip
    repeat (first | refine VO_d ?_ | refine VQ_d ?_  | (first | refine VO_nil ?_ | refine VQ_nil ?_) | (first | refine V_seq_region ?_ | refine V_seq (V_seq_region ?_) | refine V_seq_draw tmix (by kernel_rfl) ?_ | refine V_seq (V_seq_draw tmix (by kernel_rfl) ?_) | refine V_region ?_ | refine V_draw tmix (by kernel_rfl) ?_))
    refine V_ret ?_
    exact ⟨trivial, ⟨_, rfl, rfl⟩, trivial⟩
  repeat (first | refine VO_d ?_ | refine VQ_d ?_  | (first | refine VO_nil ?_ | refine VQ_nil ?_) | (first | refine V_seq_region ?_ | refine V_seq (V_seq_region ?_) | refine V_seq_draw tmix (by kernel_rfl) ?_ | refine V_seq (V_seq_draw tmix (by kernel_rfl) ?_) | refine V_region ?_ | refine V_draw tmix (by kernel_rfl) ?_))
  cases k1 : (x1 == s1)
  · skip
    repeat (first | refine VO_d ?_ | refine VQ_d ?_  | (first | refine VO_nil ?_ | refine VQ_nil ?_) | (first | refine V_seq_region ?_ | refine V_seq (V_seq_region ?_) | refine V_seq_draw tmix (by kernel_rfl) ?_ | refine V_seq (V_seq_draw tmix (by kernel_rfl) ?_) | refine V_region ?_ | refine V_draw tmix (by kernel_rfl) ?_))
    refine V_ret ?_
    exact ⟨trivial, ⟨_, rfl, rfl⟩, trivial⟩
  repeat (first | refine VO_d ?_ | refine VQ_d ?_  | (first | refine VO_nil ?_ | refine VQ_nil ?_) | (first | refine V_seq_region ?_ | refine V_seq (V_seq_region ?_) | refine V_seq_draw tmix (by kernel_rfl) ?_ | refine V_seq (V_seq_draw tmix (by kernel_rfl) ?_) | refine V_region ?_ | refine V_draw tmix (by kernel_rfl) ?_))
  cases k2 : (x2 == s2)
  · skip
    repeat (first | refine VO_d ?_ | refine VQ_d ?_  | (first | refine VO_nil ?_ | refine VQ_nil ?_) | (first | refine V_seq_region ?_ | refine V_seq (V_seq_region ?_) | refine V_seq_draw tmix (by kernel_rfl) ?_ | refine V_seq (V_seq_draw tmix (by kernel_rfl) ?_) | refine V_region ?_ | refine V_draw tmix (by kernel_rfl) ?_))
    refine V_ret ?_
    exact ⟨trivial, ⟨_, rfl, rfl⟩, trivial⟩
  repeat (first | refine VO_d ?_ | refine VQ_d ?_  | (first | refine VO_nil ?_ | refine VQ_nil ?_) | (first | refine V_seq_region ?_ | refine V_seq (V_seq_region ?_) | refine V_seq_draw tmix (by kernel_rfl) ?_ | refine V_seq (V_seq_draw tmix (by kernel_rfl) ?_) | refine V_region ?_ | refine V_draw tmix (by kernel_rfl) ?_))
  cases k3 : (x3 == s3)
  · skip
    repeat (first | refine VO_d ?_ | refine VQ_d ?_  | (first | refine VO_nil ?_ | refine VQ_nil ?_) | (first | refine V_seq_region ?_ | refine V_seq (V_seq_region ?_) | refine V_seq_draw tmix (by kernel_rfl) ?_ | refine V_seq (V_seq_draw tmix (by kernel_rfl) ?_) | refine V_region ?_ | refine V_draw tmix (by kernel_rfl) ?_))
    refine V_ret ?_
    exact ⟨trivial, ⟨_, rfl, rfl⟩, trivial⟩
  repeat (first | refine VO_d ?_ | refine VQ_d ?_  | (first | refine VO_nil ?_ | refine VQ_nil ?_) | (first | refine V_seq_region ?_ | refine V_seq (V_seq_region ?_) | refine V_seq_draw tmix (by kernel_rfl) ?_ | refine V_seq (V_seq_draw tmix (by kernel_rfl) ?_) | refine V_region ?_ | refine V_draw tmix (by kernel_rfl) ?_))
  refine V_ret ?_
  exact ⟨trivial, ⟨_, rfl, rfl⟩, trivial⟩

set_option maxHeartbeats 4000000 in
theorem implFU {us : List U} {s0 s1 s2 s3 : Int} (h : us.length ≤ big ∧ ∀ x ∈ us, wt (.st 25) x) : SpecP Try.prog 22 [.d (.sl 21 us), .d (.i .i64 s0), .d (.i .i64 s1), .d (.i .i64 s2), .d (.i .i64 s3)] [.i .i64 (fidx (pFU s0 s1 s2 s3) us)] := by
  have hF : SpecP Try.prog 62 [.d (.sl 21 us), .fn 63 [.dp (.i .i64 s0), .dp (.i .i64 s1), .dp (.i .i64 s2), .dp (.i .i64 s3)]] [.i .i64 (fidx (pFU s0 s1 s2 s3) us)] := indexFunc_Unit h.1 h.2 rfl (fun a ha => by obtain ⟨x0, x1, x2, x3, x4, x5, x6, x7, x8, rfl, g0, g1, g2, g3, g4, g5, g6, g7, g8⟩ := inv_Unit (h.2 a ha); exact implFU1 g7 g8)
  generalize fidx (pFU s0 s1 s2 s3) us = n at hF ⊢
  refine SpecP_intro Try.func22 rfl (by kernel_rfl) rfl fun A => ?_
  repeat (first | refine VO_d ?_ | refine VQ_d ?_ | (first | refine VO_q (Q_mkfn (by repeat constructor)) rfl ?_ | refine VQ_q (Q_mkfn (by repeat constructor)) rfl ?_ | (refine VO_bare rfl rfl rfl rfl ?_; refine VO_q (Q_mkfn (by repeat constructor)) rfl ?_) | refine VQ_run rfl rfl rfl rfl (Q_mkfn (by repeat constructor)) rfl ?_) | (first | refine VO_q (Q_callb rfl hF rfl (by repeat (first | exact trivial | exact rfl | exact ⟨_, rfl⟩ | refine And.intro ?_ ?_ | refine ⟨_, rfl, ?_⟩)) rfl) rfl ?_ | refine VQ_q (Q_callb rfl hF rfl (by repeat (first | exact trivial | exact rfl | exact ⟨_, rfl⟩ | refine And.intro ?_ ?_ | refine ⟨_, rfl, ?_⟩)) rfl) rfl ?_ | (refine VO_bare rfl rfl rfl rfl ?_; refine VO_q (Q_callb rfl hF rfl (by repeat (first | exact trivial | exact rfl | exact ⟨_, rfl⟩ | refine And.intro ?_ ?_ | refine ⟨_, rfl, ?_⟩)) rfl) rfl ?_) | refine VQ_run rfl rfl rfl rfl (Q_callb rfl hF rfl (by repeat (first | exact trivial | exact rfl | exact ⟨_, rfl⟩ | refine And.intro ?_ ?_ | refine ⟨_, rfl, ?_⟩)) rfl) rfl ?_) | (first | refine VO_nil ?_ | refine VQ_nil ?_) | (first | refine V_seq_region ?_ | refine V_seq (V_seq_region ?_) | refine V_seq_draw tmix (by kernel_rfl) ?_ | refine V_seq (V_seq_draw tmix (by kernel_rfl) ?_) | refine V_region ?_ | refine V_draw tmix (by kernel_rfl) ?_))
  refine V_ret ?_
  exact ⟨trivial, ⟨_, rfl, rfl⟩, trivial⟩

set_option maxHeartbeats 8000000 in
theorem specFU {us : List U} {s0 s1 s2 s3 : Int} (h : us.length ≤ big ∧ ∀ x ∈ us, wt (.st 25) x) : SpecP Try.prog 20 [.d (.sl 21 us), .d (.i .i64 s0), .d (.i .i64 s1), .d (.i .i64 s2), .d (.i .i64 s3)] [.i .i64 (fidx (pFU s0 s1 s2 s3) us)] := by
  obtain ⟨hb1, hw⟩ := h
  rw [big_eq] at hb1
  refine SpecP_intro Try.func20 rfl (by kernel_rfl) rfl fun A => ?_
  repeat (first | refine VO_d ?_ | refine VQ_d ?_  | (first | refine VO_nil ?_ | refine VQ_nil ?_) | (first | refine V_seq_region ?_ | refine V_seq (V_seq_region ?_) | refine V_seq_draw tmix (by kernel_rfl) ?_ | refine V_seq (V_seq_draw tmix (by kernel_rfl) ?_) | refine V_region ?_ | refine V_draw tmix (by kernel_rfl) ?_))
  refine V_block ?_
  refine V_loop (α := Nat)
    (fun k => ⟨[(0, .d (.sl 21 us)), (1, .d (.i .i64 s0)), (2, .d (.i .i64 s1)), (3, .d (.i .i64 s2)), (4, .d (.i .i64 s3)), (11, .d (.i .i64 k))], [], Try.f20.ntmps⟩)
    (fun k => k ≤ us.length ∧ ∀ j b, j < k → us[j]? = some b → pFU s0 s1 s2 s3 b = false)
    (fun k => us.length - k) 0 ⟨rfl, ⟨⟨rfl, rfl⟩, ⟨rfl, rfl⟩, ⟨rfl, rfl⟩, ⟨rfl, rfl⟩, ⟨rfl, rfl⟩, ⟨rfl, rfl⟩, trivial⟩, ⟨[], rfl⟩, rfl⟩ ⟨by simp, by simp⟩ ?_
  rintro k ⟨hk, hsame⟩
  repeat (first | refine VO_d ?_ | refine VQ_d ?_  | (first | refine VO_nil ?_ | refine VQ_nil ?_) | (first | refine V_seq_region ?_ | refine V_seq (V_seq_region ?_) | refine V_seq_draw tmix (by kernel_rfl) ?_ | refine V_seq (V_seq_draw tmix (by kernel_rfl) ?_) | refine V_region ?_ | refine V_draw tmix (by kernel_rfl) ?_))
  (first | refine V_cond rfl (fun hc2 => ?_) (fun hc2 => ?_) | refine V_seq (V_cond rfl (fun hc2 => ?_) (fun hc2 => ?_)))
  · refine V_skip ?_
    simp only [decide_eq_true_eq] at hc2
    obtain ⟨a, hget⟩ : ∃ a, us[k]? = some a := ⟨_, List.getElem?_eq_getElem (by omega)⟩
    have hma := List.mem_of_getElem? hget
    obtain ⟨x0, x1, x2, x3, x4, x5, x6, x7, x8, rfl, g0, g1, g2, g3, g4, g5, g6, g7, g8⟩ := inv_Unit (hw a hma)
    have hp1 : pFU s0 s1 s2 s3 (.st [.i .i64 x0, .i .i64 x1, .i .i64 x2, .i .i64 x3, .sl 1 x4, .sl 4 x5, .sl 4 x6, x7, x8]) = (x0 == s0 && x1 == s1 && x2 == s2 && x3 == s3) := rfl
    refine V_seq (V_block ?_)
    repeat (first | refine VO_d ?_ | refine VQ_d ?_ | (first | refine VO_q (Q_index rfl rfl TE.h TI.h (by omega) hget) rfl ?_ | refine VQ_q (Q_index rfl rfl TE.h TI.h (by omega) hget) rfl ?_ | (refine VO_bare rfl rfl rfl rfl ?_; refine VO_q (Q_index rfl rfl TE.h TI.h (by omega) hget) rfl ?_) | refine VQ_run rfl rfl rfl rfl (Q_index rfl rfl TE.h TI.h (by omega) hget) rfl ?_) | (first | refine VO_nil ?_ | refine VQ_nil ?_) | (first | refine V_seq_region ?_ | refine V_seq (V_seq_region ?_) | refine V_seq_draw tmix (by kernel_rfl) ?_ | refine V_seq (V_seq_draw tmix (by kernel_rfl) ?_) | refine V_region ?_ | refine V_draw tmix (by kernel_rfl) ?_))
    cases k0 : (x0 == s0)
    · skip
      rw [k0] at hp1
      repeat (first | refine VO_d ?_ | refine VQ_d ?_ | (first | refine VO_q (Q_index rfl rfl TE.h TI.h (by omega) hget) rfl ?_ | refine VQ_q (Q_index rfl rfl TE.h TI.h (by omega) hget) rfl ?_ | (refine VO_bare rfl rfl rfl rfl ?_; refine VO_q (Q_index rfl rfl TE.h TI.h (by omega) hget) rfl ?_) | refine VQ_run rfl rfl rfl rfl (Q_index rfl rfl TE.h TI.h (by omega) hget) rfl ?_) | (first | refine VO_nil ?_ | refine VQ_nil ?_) | (first | refine V_seq_region ?_ | refine V_seq (V_seq_region ?_) | refine V_seq_draw tmix (by kernel_rfl) ?_ | refine V_seq (V_seq_draw tmix (by kernel_rfl) ?_) | refine V_region ?_ | refine V_draw tmix (by kernel_rfl) ?_))
      (first | refine V_cond rfl (fun hc3 => ?_) (fun hc3 => ?_) | refine V_seq (V_cond rfl (fun hc3 => ?_) (fun hc3 => ?_)))
      · cases hc3
      refine V_skip ?_
      repeat (first | refine VO_d ?_ | refine VQ_d ?_  | (first | refine VO_nil ?_ | refine VQ_nil ?_) | (first | refine V_seq_region ?_ | refine V_seq (V_seq_region ?_) | refine V_seq_draw tmix (by kernel_rfl) ?_ | refine V_seq (V_seq_draw tmix (by kernel_rfl) ?_) | refine V_region ?_ | refine V_draw tmix (by kernel_rfl) ?_))
      refine ⟨k + 1, ⟨by omega, fun j b hj hb => ?_⟩, by omega, ⟨rfl, ⟨⟨rfl, rfl⟩, ⟨rfl, rfl⟩, ⟨rfl, rfl⟩, ⟨rfl, rfl⟩, ⟨rfl, rfl⟩, ⟨rfl, rfl⟩, trivial⟩, ⟨[], rfl⟩, rfl⟩⟩
      by_cases hjk : j = k
      · subst hjk; rw [hget] at hb; cases hb; rw [hp1]; simp
      · exact hsame j b (by omega) hb
    rw [k0] at hp1
    repeat (first | refine VO_d ?_ | refine VQ_d ?_ | (first | refine VO_q (Q_index rfl rfl TE.h TI.h (by omega) hget) rfl ?_ | refine VQ_q (Q_index rfl rfl TE.h TI.h (by omega) hget) rfl ?_ | (refine VO_bare rfl rfl rfl rfl ?_; refine VO_q (Q_index rfl rfl TE.h TI.h (by omega) hget) rfl ?_) | refine VQ_run rfl rfl rfl rfl (Q_index rfl rfl TE.h TI.h (by omega) hget) rfl ?_) | (first | refine VO_nil ?_ | refine VQ_nil ?_) | (first | refine V_seq_region ?_ | refine V_seq (V_seq_region ?_) | refine V_seq_draw tmix (by kernel_rfl) ?_ | refine V_seq (V_seq_draw tmix (by kernel_rfl) ?_) | refine V_region ?_ | refine V_draw tmix (by kernel_rfl) ?_))
    cases k1 : (x1 == s1)
    · skip
      rw [k1] at hp1
      repeat (first | refine VO_d ?_ | refine VQ_d ?_ | (first | refine VO_q (Q_index rfl rfl TE.h TI.h (by omega) hget) rfl ?_ | refine VQ_q (Q_index rfl rfl TE.h TI.h (by omega) hget) rfl ?_ | (refine VO_bare rfl rfl rfl rfl ?_; refine VO_q (Q_index rfl rfl TE.h TI.h (by omega) hget) rfl ?_) | refine VQ_run rfl rfl rfl rfl (Q_index rfl rfl TE.h TI.h (by omega) hget) rfl ?_) | (first | refine VO_nil ?_ | refine VQ_nil ?_) | (first | refine V_seq_region ?_ | refine V_seq (V_seq_region ?_) | refine V_seq_draw tmix (by kernel_rfl) ?_ | refine V_seq (V_seq_draw tmix (by kernel_rfl) ?_) | refine V_region ?_ | refine V_draw tmix (by kernel_rfl) ?_))
      (first | refine V_cond rfl (fun hc3 => ?_) (fun hc3 => ?_) | refine V_seq (V_cond rfl (fun hc3 => ?_) (fun hc3 => ?_)))
      · cases hc3
      refine V_skip ?_
      repeat (first | refine VO_d ?_ | refine VQ_d ?_  | (first | refine VO_nil ?_ | refine VQ_nil ?_) | (first | refine V_seq_region ?_ | refine V_seq (V_seq_region ?_) | refine V_seq_draw tmix (by kernel_rfl) ?_ | refine V_seq (V_seq_draw tmix (by kernel_rfl) ?_) | refine V_region ?_ | refine V_draw tmix (by kernel_rfl) ?_))
      refine ⟨k + 1, ⟨by omega, fun j b hj hb => ?_⟩, by omega, ⟨rfl, ⟨⟨rfl, rfl⟩, ⟨rfl, rfl⟩, ⟨rfl, rfl⟩, ⟨rfl, rfl⟩, ⟨rfl, rfl⟩, ⟨rfl, rfl⟩, trivial⟩, ⟨[], rfl⟩, rfl⟩⟩
      by_cases hjk : j = k
      · subst hjk; rw [hget] at hb; cases hb; rw [hp1]; simp
      · exact hsame j b (by omega) hb
    rw [k1] at hp1
    repeat (first | refine VO_d ?_ | refine VQ_d ?_ | (first | refine VO_q (Q_index rfl rfl TE.h TI.h (by omega) hget) rfl ?_ | refine VQ_q (Q_index rfl rfl TE.h TI.h (by omega) hget) rfl ?_ | (refine VO_bare rfl rfl rfl rfl ?_; refine VO_q (Q_index rfl rfl TE.h TI.h (by omega) hget) rfl ?_) | refine VQ_run rfl rfl rfl rfl (Q_index rfl rfl TE.h TI.h (by omega) hget) rfl ?_) | (first | refine VO_nil ?_ | refine VQ_nil ?_) | (first | refine V_seq_region ?_ | refine V_seq (V_seq_region ?_) | refine V_seq_draw tmix (by kernel_rfl) ?_ | refine V_seq (V_seq_draw tmix (by kernel_rfl) ?_) | refine V_region ?_ | refine V_draw tmix (by kernel_rfl) ?_))
    cases k2 : (x2 == s2)
    · skip
      rw [k2] at hp1
      repeat (first | refine VO_d ?_ | refine VQ_d ?_ | (first | refine VO_q (Q_index rfl rfl TE.h TI.h (by omega) hget) rfl ?_ | refine VQ_q (Q_index rfl rfl TE.h TI.h (by omega) hget) rfl ?_ | (refine VO_bare rfl rfl rfl rfl ?_; refine VO_q (Q_index rfl rfl TE.h TI.h (by omega) hget) rfl ?_) | refine VQ_run rfl rfl rfl rfl (Q_index rfl rfl TE.h TI.h (by omega) hget) rfl ?_) | (first | refine VO_nil ?_ | refine VQ_nil ?_) | (first | refine V_seq_region ?_ | refine V_seq (V_seq_region ?_) | refine V_seq_draw tmix (by kernel_rfl) ?_ | refine V_seq (V_seq_draw tmix (by kernel_rfl) ?_) | refine V_region ?_ | refine V_draw tmix (by kernel_rfl) ?_))
      (first | refine V_cond rfl (fun hc3 => ?_) (fun hc3 => ?_) | refine V_seq (V_cond rfl (fun hc3 => ?_) (fun hc3 => ?_)))
      · cases hc3
      refine V_skip ?_
      repeat (first | refine VO_d ?_ | refine VQ_d ?_  | (first | refine VO_nil ?_ | refine VQ_nil ?_) | (first | refine V_seq_region ?_ | refine V_seq (V_seq_region ?_) | refine V_seq_draw tmix (by kernel_rfl) ?_ | refine V_seq (V_seq_draw tmix (by kernel_rfl) ?_) | refine V_region ?_ | refine V_draw tmix (by kernel_rfl) ?_))
      refine ⟨k + 1, ⟨by omega, fun j b hj hb => ?_⟩, by omega, ⟨rfl, ⟨⟨rfl, rfl⟩, ⟨rfl, rfl⟩, ⟨rfl, rfl⟩, ⟨rfl, rfl⟩, ⟨rfl, rfl⟩, ⟨rfl, rfl⟩, trivial⟩, ⟨[], rfl⟩, rfl⟩⟩
      by_cases hjk : j = k
      · subst hjk; rw [hget] at hb; cases hb; rw [hp1]; simp
      · exact hsame j b (by omega) hb
    rw [k2] at hp1
    repeat (first | refine VO_d ?_ | refine VQ_d ?_ | (first | refine VO_q (Q_index rfl rfl TE.h TI.h (by omega) hget) rfl ?_ | refine VQ_q (Q_index rfl rfl TE.h TI.h (by omega) hget) rfl ?_ | (refine VO_bare rfl rfl rfl rfl ?_; refine VO_q (Q_index rfl rfl TE.h TI.h (by omega) hget) rfl ?_) | refine VQ_run rfl rfl rfl rfl (Q_index rfl rfl TE.h TI.h (by omega) hget) rfl ?_) | (first | refine VO_nil ?_ | refine VQ_nil ?_) | (first | refine V_seq_region ?_ | refine V_seq (V_seq_region ?_) | refine V_seq_draw tmix (by kernel_rfl) ?_ | refine V_seq (V_seq_draw tmix (by kernel_rfl) ?_) | refine V_region ?_ | refine V_draw tmix (by kernel_rfl) ?_))
    cases k3 : (x3 == s3)
    · skip
      rw [k3] at hp1
      repeat (first | refine VO_d ?_ | refine VQ_d ?_ | (first | refine VO_q (Q_index rfl rfl TE.h TI.h (by omega) hget) rfl ?_ | refine VQ_q (Q_index rfl rfl TE.h TI.h (by omega) hget) rfl ?_ | (refine VO_bare rfl rfl rfl rfl ?_; refine VO_q (Q_index rfl rfl TE.h TI.h (by omega) hget) rfl ?_) | refine VQ_run rfl rfl rfl rfl (Q_index rfl rfl TE.h TI.h (by omega) hget) rfl ?_) | (first | refine VO_nil ?_ | refine VQ_nil ?_) | (first | refine V_seq_region ?_ | refine V_seq (V_seq_region ?_) | refine V_seq_draw tmix (by kernel_rfl) ?_ | refine V_seq (V_seq_draw tmix (by kernel_rfl) ?_) | refine V_region ?_ | refine V_draw tmix (by kernel_rfl) ?_))
      (first | refine V_cond rfl (fun hc3 => ?_) (fun hc3 => ?_) | refine V_seq (V_cond rfl (fun hc3 => ?_) (fun hc3 => ?_)))
      · cases hc3
      refine V_skip ?_
      repeat (first | refine VO_d ?_ | refine VQ_d ?_  | (first | refine VO_nil ?_ | refine VQ_nil ?_) | (first | refine V_seq_region ?_ | refine V_seq (V_seq_region ?_) | refine V_seq_draw tmix (by kernel_rfl) ?_ | refine V_seq (V_seq_draw tmix (by kernel_rfl) ?_) | refine V_region ?_ | refine V_draw tmix (by kernel_rfl) ?_))
      refine ⟨k + 1, ⟨by omega, fun j b hj hb => ?_⟩, by omega, ⟨rfl, ⟨⟨rfl, rfl⟩, ⟨rfl, rfl⟩, ⟨rfl, rfl⟩, ⟨rfl, rfl⟩, ⟨rfl, rfl⟩, ⟨rfl, rfl⟩, trivial⟩, ⟨[], rfl⟩, rfl⟩⟩
      by_cases hjk : j = k
      · subst hjk; rw [hget] at hb; cases hb; rw [hp1]; simp
      · exact hsame j b (by omega) hb
    rw [k3] at hp1
    repeat (first | refine VO_d ?_ | refine VQ_d ?_ | (first | refine VO_q (Q_index rfl rfl TE.h TI.h (by omega) hget) rfl ?_ | refine VQ_q (Q_index rfl rfl TE.h TI.h (by omega) hget) rfl ?_ | (refine VO_bare rfl rfl rfl rfl ?_; refine VO_q (Q_index rfl rfl TE.h TI.h (by omega) hget) rfl ?_) | refine VQ_run rfl rfl rfl rfl (Q_index rfl rfl TE.h TI.h (by omega) hget) rfl ?_) | (first | refine VO_nil ?_ | refine VQ_nil ?_) | (first | refine V_seq_region ?_ | refine V_seq (V_seq_region ?_) | refine V_seq_draw tmix (by kernel_rfl) ?_ | refine V_seq (V_seq_draw tmix (by kernel_rfl) ?_) | refine V_region ?_ | refine V_draw tmix (by kernel_rfl) ?_))
    (first | refine V_cond rfl (fun hc3 => ?_) (fun hc3 => ?_) | refine V_seq (V_cond rfl (fun hc3 => ?_) (fun hc3 => ?_)))
    · repeat (first | refine VO_d ?_ | refine VQ_d ?_  | (first | refine VO_nil ?_ | refine VQ_nil ?_) | (first | refine V_seq_region ?_ | refine V_seq (V_seq_region ?_) | refine V_seq_draw tmix (by kernel_rfl) ?_ | refine V_seq (V_seq_draw tmix (by kernel_rfl) ?_) | refine V_region ?_ | refine V_draw tmix (by kernel_rfl) ?_))
      refine V_ret ?_
      exact ⟨trivial, ⟨_, rfl, congrArg (U.i .i64) (fidx_hit hget (by rw [hp1]; rfl) hsame).symm⟩, trivial⟩
    · cases hc3
  · refine V_exit ?_
    simp only [decide_eq_false_iff_not] at hc2
    have hkl : k = us.length := by omega
    subst hkl
    show V _ _ _ _ _
    repeat (first | refine VO_d ?_ | refine VQ_d ?_  | (first | refine VO_nil ?_ | refine VQ_nil ?_) | (first | refine V_seq_region ?_ | refine V_seq (V_seq_region ?_) | refine V_seq_draw tmix (by kernel_rfl) ?_ | refine V_seq (V_seq_draw tmix (by kernel_rfl) ?_) | refine V_region ?_ | refine V_draw tmix (by kernel_rfl) ?_))
    refine V_ret ?_
    exact ⟨trivial, ⟨_, rfl, congrArg (U.i .i64) (fidx_none hsame).symm⟩, trivial⟩

theorem bothFU {us0 : List U} {u1 u2 u3 u4 : U} (w0 : us0.length ≤ big ∧ ∀ x ∈ us0, wt (.st 25) x) (w1 : wt .int u1) (w2 : wt .int u2) (w3 : wt .int u3) (w4 : wt .int u4) :
    ∃ n : Int, SpecP Try.prog 20 [.d (.sl 21 us0), .d u1, .d u2, .d u3, .d u4] [.i .i64 n] ∧ SpecP Try.prog 22 [.d (.sl 21 us0), .d u1, .d u2, .d u3, .d u4] [.i .i64 n] := by
  obtain ⟨s0, rfl, _⟩ := inv_int w1
  obtain ⟨s1, rfl, _⟩ := inv_int w2
  obtain ⟨s2, rfl, _⟩ := inv_int w3
  obtain ⟨s3, rfl, _⟩ := inv_int w4
  exact ⟨_, specFU w0, implFU w0⟩

end Go.Proofs.Ytcdcekoffaaalaa
