/- FindTable, FindSpecialization. Written by a program of mine. -/
import Derived.Test.YtbhigchfphnkhaaEqCoreM
import Derived.Test.YtbhigchfphnkhaaEng14
set_option linter.unusedVariables false
set_option linter.unusedSimpArgs false
namespace Go.Proofs.Ytbhigchfphnkhaa
open Go Go.Eng
attribute [local irreducible] V VO VQ Quiet SpecP

set_option maxHeartbeats 4000000 in
theorem indexFunc_MethodTable {fi : Nat} {caps : List SV} {p : U → Bool} {us : List U} (hb1 : us.length ≤ big) (hw : ∀ a ∈ us, wt (.st 30) a) (hcap : SV.lts 0 caps = true) (ih : ∀ a ∈ us, SpecP Try.prog fi (.d a :: caps) [.b (p a)]) :
    SpecP Try.prog 32 [.d (.sl 5 us), .fn fi caps] [.i .i64 (fidx p us)] := by
  rw [big_eq] at hb1
  refine SpecP_intro Try.func32 rfl (by kernel_rfl) rfl fun A => ?_
  repeat (first | refine VO_d ?_ | refine VQ_d ?_  | (first | refine VO_nil ?_ | refine VQ_nil ?_) | (first | refine V_seq_region ?_ | refine V_seq (V_seq_region ?_) | refine V_seq_draw tmix (by kernel_rfl) ?_ | refine V_seq (V_seq_draw tmix (by kernel_rfl) ?_) | refine V_region ?_ | refine V_draw tmix (by kernel_rfl) ?_))
  refine V_block ?_
  refine V_loop (α := Nat)
    (fun k => ⟨[(0, .d (.sl 5 us)), (1, .fn fi caps), (7, .d (.i .i64 us.length)), (8, .d (.i .i64 k))], [], Try.f32.ntmps⟩)
    (fun k => k ≤ us.length ∧ ∀ j b, j < k → us[j]? = some b → p b = false)
    (fun k => us.length - k) 0 ⟨rfl, ⟨⟨rfl, rfl⟩, ⟨rfl, hcap⟩, ⟨rfl, rfl⟩, ⟨rfl, rfl⟩, trivial⟩, ⟨[], rfl⟩, rfl⟩ ⟨by simp, by simp⟩ ?_
  rintro k ⟨hk, hsame⟩
  repeat (first | refine VO_d ?_ | refine VQ_d ?_  | (first | refine VO_nil ?_ | refine VQ_nil ?_) | (first | refine V_seq_region ?_ | refine V_seq (V_seq_region ?_) | refine V_seq_draw tmix (by kernel_rfl) ?_ | refine V_seq (V_seq_draw tmix (by kernel_rfl) ?_) | refine V_region ?_ | refine V_draw tmix (by kernel_rfl) ?_))
  (first | refine V_cond rfl (fun hc2 => ?_) (fun hc2 => ?_) | refine V_seq (V_cond rfl (fun hc2 => ?_) (fun hc2 => ?_)))
  · refine V_skip ?_
    simp only [decide_eq_true_eq] at hc2
    obtain ⟨a, hget⟩ : ∃ a, us[k]? = some a := ⟨_, List.getElem?_eq_getElem (by omega)⟩
    have hma := List.mem_of_getElem? hget
    have hwa := hw a hma
    have hcall := ih a hma
    obtain ⟨r, hr⟩ : ∃ r, p a = r := ⟨_, rfl⟩
    rw [hr] at hcall
    refine V_seq (V_block ?_)
    repeat (first | refine VO_d ?_ | refine VQ_d ?_ | (first | refine VO_q (Q_index rfl rfl TE.h TI.h (by omega) hget) rfl ?_ | refine VQ_q (Q_index rfl rfl TE.h TI.h (by omega) hget) rfl ?_ | (refine VO_bare rfl rfl rfl rfl ?_; refine VO_q (Q_index rfl rfl TE.h TI.h (by omega) hget) rfl ?_) | refine VQ_run rfl rfl rfl rfl (Q_index rfl rfl TE.h TI.h (by omega) hget) rfl ?_) | (first | refine VO_q (Q_load rfl TI.h (wt_isSt hwa) (wt_sz _ _ hwa)) rfl ?_ | refine VQ_q (Q_load rfl TI.h (wt_isSt hwa) (wt_sz _ _ hwa)) rfl ?_ | (refine VO_bare rfl rfl rfl rfl ?_; refine VO_q (Q_load rfl TI.h (wt_isSt hwa) (wt_sz _ _ hwa)) rfl ?_) | refine VQ_run rfl rfl rfl rfl (Q_load rfl TI.h (wt_isSt hwa) (wt_sz _ _ hwa)) rfl ?_) | (first | refine VO_q (Q_callc (dargs := [.d a]) rfl hcall (by repeat (first | exact trivial | exact rfl | exact ⟨_, rfl⟩ | refine And.intro ?_ ?_)) hcap) rfl ?_ | refine VQ_q (Q_callc (dargs := [.d a]) rfl hcall (by repeat (first | exact trivial | exact rfl | exact ⟨_, rfl⟩ | refine And.intro ?_ ?_)) hcap) rfl ?_ | (refine VO_bare rfl rfl rfl rfl ?_; refine VO_q (Q_callc (dargs := [.d a]) rfl hcall (by repeat (first | exact trivial | exact rfl | exact ⟨_, rfl⟩ | refine And.intro ?_ ?_)) hcap) rfl ?_) | refine VQ_run rfl rfl rfl rfl (Q_callc (dargs := [.d a]) rfl hcall (by repeat (first | exact trivial | exact rfl | exact ⟨_, rfl⟩ | refine And.intro ?_ ?_)) hcap) rfl ?_) | (first | refine VO_nil ?_ | refine VQ_nil ?_) | (first | refine V_seq_region ?_ | refine V_seq (V_seq_region ?_) | refine V_seq_draw tmix (by kernel_rfl) ?_ | refine V_seq (V_seq_draw tmix (by kernel_rfl) ?_) | refine V_region ?_ | refine V_draw tmix (by kernel_rfl) ?_))
    (first | refine V_cond rfl (fun hc3 => ?_) (fun hc3 => ?_) | refine V_seq (V_cond rfl (fun hc3 => ?_) (fun hc3 => ?_)))
    · repeat (first | refine VO_d ?_ | refine VQ_d ?_  | (first | refine VO_nil ?_ | refine VQ_nil ?_) | (first | refine V_seq_region ?_ | refine V_seq (V_seq_region ?_) | refine V_seq_draw tmix (by kernel_rfl) ?_ | refine V_seq (V_seq_draw tmix (by kernel_rfl) ?_) | refine V_region ?_ | refine V_draw tmix (by kernel_rfl) ?_))
      refine V_ret ?_
      exact ⟨trivial, ⟨_, rfl, congrArg (U.i .i64) (fidx_hit hget (by rw [hr]; exact hc3) hsame).symm⟩, trivial⟩
    refine V_skip ?_
    repeat (first | refine VO_d ?_ | refine VQ_d ?_  | (first | refine VO_nil ?_ | refine VQ_nil ?_) | (first | refine V_seq_region ?_ | refine V_seq (V_seq_region ?_) | refine V_seq_draw tmix (by kernel_rfl) ?_ | refine V_seq (V_seq_draw tmix (by kernel_rfl) ?_) | refine V_region ?_ | refine V_draw tmix (by kernel_rfl) ?_))
    refine ⟨k + 1, ⟨by omega, fun j b hj hb => ?_⟩, by omega, ⟨rfl, ⟨⟨rfl, rfl⟩, ⟨rfl, hcap⟩, ⟨rfl, rfl⟩, ⟨rfl, rfl⟩, trivial⟩, ⟨_, rfl⟩, rfl⟩⟩
    by_cases hjk : j = k
    · subst hjk; rw [hget] at hb; cases hb; rw [hr]; exact hc3
    · exact hsame j b (by omega) hb
  · refine V_exit ?_
    simp only [decide_eq_false_iff_not] at hc2
    have hkl : k = us.length := by omega
    subst hkl
    show V _ _ _ _ _
    repeat (first | refine VO_d ?_ | refine VQ_d ?_  | (first | refine VO_nil ?_ | refine VQ_nil ?_) | (first | refine V_seq_region ?_ | refine V_seq (V_seq_region ?_) | refine V_seq_draw tmix (by kernel_rfl) ?_ | refine V_seq (V_seq_draw tmix (by kernel_rfl) ?_) | refine V_region ?_ | refine V_draw tmix (by kernel_rfl) ?_))
    refine V_ret ?_
    exact ⟨trivial, ⟨_, rfl, congrArg (U.i .i64) (fidx_none hsame).symm⟩, trivial⟩

noncomputable def pFindTable (s : List UInt8) (t : U) : U → Bool
  | .st [.s x, y, _] => x == s && deq y t
  | _ => false

set_option maxHeartbeats 4000000 in
theorem implFindTable1 {x0 : List UInt8} {x1 : U} {x2 : List U} {s : List UInt8} {t : U} (g1 : wt (.st 1) x1) (j : wt (.st 1) t) (h1 : SpecP Try.prog 34 [.d x1, .d t] [.b (deq x1 t)]) :
    SpecP Try.prog 33 [.d (.st [.s x0, x1, .sl 3 x2]), .dp (.s s), .dp t] [.b (pFindTable s t (.st [.s x0, x1, .sl 3 x2]))] := by
  show SpecP _ _ _ [.b (x0 == s && deq x1 t)]
  obtain ⟨r, hr⟩ : ∃ r, deq x1 t = r := ⟨_, rfl⟩
  rw [hr] at h1 ⊢
  obtain ⟨x1_0, x1_1, x1_2, rfl, g1_0, g1_1, g1_2⟩ := inv_Type g1
  obtain ⟨t_0, t_1, t_2, rfl, j_0, j_1, j_2⟩ := inv_Type j
  refine SpecP_intro Try.func33 rfl (by kernel_rfl) rfl fun A => ?_
  repeat (first | refine VO_d ?_ | refine VQ_d ?_  | (first | refine VO_nil ?_ | refine VQ_nil ?_) | (first | refine V_seq_region ?_ | refine V_seq (V_seq_region ?_) | refine V_seq_draw tmix (by kernel_rfl) ?_ | refine V_seq (V_seq_draw tmix (by kernel_rfl) ?_) | refine V_region ?_ | refine V_draw tmix (by kernel_rfl) ?_))
  cases hk : (x0 == s)
  · repeat (first | refine VO_d ?_ | refine VQ_d ?_  | (first | refine VO_nil ?_ | refine VQ_nil ?_) | (first | refine V_seq_region ?_ | refine V_seq (V_seq_region ?_) | refine V_seq_draw tmix (by kernel_rfl) ?_ | refine V_seq (V_seq_draw tmix (by kernel_rfl) ?_) | refine V_region ?_ | refine V_draw tmix (by kernel_rfl) ?_))
    refine V_ret ?_
    exact ⟨trivial, ⟨_, rfl, rfl⟩, trivial⟩
  repeat (first | refine VO_d ?_ | refine VQ_d ?_ | (first | refine VO_q (Q_call rfl h1 (by repeat (first | exact trivial | exact rfl | exact ⟨_, rfl⟩ | refine And.intro ?_ ?_))) rfl ?_ | refine VQ_q (Q_call rfl h1 (by repeat (first | exact trivial | exact rfl | exact ⟨_, rfl⟩ | refine And.intro ?_ ?_))) rfl ?_ | (refine VO_bare rfl rfl rfl rfl ?_; refine VO_q (Q_call rfl h1 (by repeat (first | exact trivial | exact rfl | exact ⟨_, rfl⟩ | refine And.intro ?_ ?_))) rfl ?_) | refine VQ_run rfl rfl rfl rfl (Q_call rfl h1 (by repeat (first | exact trivial | exact rfl | exact ⟨_, rfl⟩ | refine And.intro ?_ ?_))) rfl ?_) | (first | refine VO_nil ?_ | refine VQ_nil ?_) | (first | refine V_seq_region ?_ | refine V_seq (V_seq_region ?_) | refine V_seq_draw tmix (by kernel_rfl) ?_ | refine V_seq (V_seq_draw tmix (by kernel_rfl) ?_) | refine V_region ?_ | refine V_draw tmix (by kernel_rfl) ?_))
  refine V_ret ?_
  exact ⟨trivial, ⟨_, rfl, rfl⟩, trivial⟩

set_option maxHeartbeats 4000000 in
theorem implFindTable {f0 f1 : List U} {s : List UInt8} {t : U} (h1 : f1.length ≤ big ∧ ∀ x ∈ f1, wt (.st 30) x) (j : wt (.st 1) t) : SpecP Try.prog 12 [.d (.st [.sl 14 f0, .sl 5 f1]), .d (.s s), .d t] [.i .i64 (fidx (pFindTable s t) f1)] := by
  have hF : SpecP Try.prog 32 [.d (.sl 5 f1), .fn 33 [.dp (.s s), .dp t]] [.i .i64 (fidx (pFindTable s t) f1)] := indexFunc_MethodTable h1.1 h1.2 rfl (fun a ha => by obtain ⟨x0, x1, x2, rfl, g0, g1, g2⟩ := inv_MethodTable (h1.2 a ha); exact implFindTable1 g1 j (implEqualType x1 g1 t j))
  generalize fidx (pFindTable s t) f1 = n at hF ⊢
  obtain ⟨t_0, t_1, t_2, rfl, j_0, j_1, j_2⟩ := inv_Type j
  refine SpecP_intro Try.func12 rfl (by kernel_rfl) rfl fun A => ?_
  repeat (first | refine VO_d ?_ | refine VQ_d ?_ | (first | refine VO_q (Q_mkfn (by repeat constructor)) rfl ?_ | refine VQ_q (Q_mkfn (by repeat constructor)) rfl ?_ | (refine VO_bare rfl rfl rfl rfl ?_; refine VO_q (Q_mkfn (by repeat constructor)) rfl ?_) | refine VQ_run rfl rfl rfl rfl (Q_mkfn (by repeat constructor)) rfl ?_) | (first | refine VO_q (Q_callb rfl hF rfl (by repeat (first | exact trivial | exact rfl | exact ⟨_, rfl⟩ | refine And.intro ?_ ?_ | refine ⟨_, rfl, ?_⟩)) rfl) rfl ?_ | refine VQ_q (Q_callb rfl hF rfl (by repeat (first | exact trivial | exact rfl | exact ⟨_, rfl⟩ | refine And.intro ?_ ?_ | refine ⟨_, rfl, ?_⟩)) rfl) rfl ?_ | (refine VO_bare rfl rfl rfl rfl ?_; refine VO_q (Q_callb rfl hF rfl (by repeat (first | exact trivial | exact rfl | exact ⟨_, rfl⟩ | refine And.intro ?_ ?_ | refine ⟨_, rfl, ?_⟩)) rfl) rfl ?_) | refine VQ_run rfl rfl rfl rfl (Q_callb rfl hF rfl (by repeat (first | exact trivial | exact rfl | exact ⟨_, rfl⟩ | refine And.intro ?_ ?_ | refine ⟨_, rfl, ?_⟩)) rfl) rfl ?_) | (first | refine VO_nil ?_ | refine VQ_nil ?_) | (first | refine V_seq_region ?_ | refine V_seq (V_seq_region ?_) | refine V_seq_draw tmix (by kernel_rfl) ?_ | refine V_seq (V_seq_draw tmix (by kernel_rfl) ?_) | refine V_region ?_ | refine V_draw tmix (by kernel_rfl) ?_))
  refine V_ret ?_
  exact ⟨trivial, ⟨_, rfl, rfl⟩, trivial⟩

set_option maxHeartbeats 8000000 in
theorem specFindTable {f0 f1 : List U} {s : List UInt8} {t : U} (h1 : f1.length ≤ big ∧ ∀ x ∈ f1, wt (.st 30) x) (j : wt (.st 1) t) : SpecP Try.prog 9 [.d (.st [.sl 14 f0, .sl 5 f1]), .d (.s s), .d t] [.i .i64 (fidx (pFindTable s t) f1)] := by
  obtain ⟨hb1, hw⟩ := h1
  rw [big_eq] at hb1
  obtain ⟨q, hq⟩ : ∃ q : U → Bool, ∀ y, q y = deq y t := ⟨_, fun _ => rfl⟩
  have hcs : ∀ (x0 : List UInt8) (x1 : U) (x2 : List U), .st [.s x0, x1, .sl 3 x2] ∈ f1 → SpecP Try.prog 29 [.d x1, .d t] [.b (q x1)] := by
    intro x0 x1 x2 ha
    have hwa := hw _ ha
    rw [hq]
    obtain ⟨x0, x1, x2, hx, g0, g1, g2⟩ := inv_MethodTable hwa
    cases hx
    exact (specEqualType x1 g1 t j)
  have hp : ∀ (x0 : List UInt8) (x1 : U) (x2 : List U), pFindTable s t (.st [.s x0, x1, .sl 3 x2]) = (x0 == s && q x1) := by
    intro x0 x1 x2
    rw [hq]
    rfl
  generalize pFindTable s t = p at hp ⊢
  clear hq
  obtain ⟨t_0, t_1, t_2, rfl, j_0, j_1, j_2⟩ := inv_Type j
  refine SpecP_intro Try.func9 rfl (by kernel_rfl) rfl fun A => ?_
  repeat (first | refine VO_d ?_ | refine VQ_d ?_  | (first | refine VO_nil ?_ | refine VQ_nil ?_) | (first | refine V_seq_region ?_ | refine V_seq (V_seq_region ?_) | refine V_seq_draw tmix (by kernel_rfl) ?_ | refine V_seq (V_seq_draw tmix (by kernel_rfl) ?_) | refine V_region ?_ | refine V_draw tmix (by kernel_rfl) ?_))
  refine V_block ?_
  refine V_loop (α := Nat)
    (fun k => ⟨[(1, .d (.s s)), (3, .ptr 0 0), (5, .ptr 1 0), (7, .d (.i .i64 k))], [.box [.d (.sl 14 f0), .d (.sl 5 f1)], .box [.d (.i .i64 t_0), .d (.s t_1), .d (.sl 3 t_2)]], Try.f9.ntmps⟩)
    (fun k => k ≤ f1.length ∧ ∀ j b, j < k → f1[j]? = some b → p b = false)
    (fun k => f1.length - k) 0 ⟨rfl, ⟨⟨rfl, rfl⟩, ⟨rfl, rfl⟩, ⟨rfl, rfl⟩, ⟨rfl, rfl⟩, trivial⟩, ⟨[], rfl⟩, rfl⟩ ⟨by simp, by simp⟩ ?_
  rintro k ⟨hk, hsame⟩
  repeat (first | refine VO_d ?_ | refine VQ_d ?_  | (first | refine VO_nil ?_ | refine VQ_nil ?_) | (first | refine V_seq_region ?_ | refine V_seq (V_seq_region ?_) | refine V_seq_draw tmix (by kernel_rfl) ?_ | refine V_seq (V_seq_draw tmix (by kernel_rfl) ?_) | refine V_region ?_ | refine V_draw tmix (by kernel_rfl) ?_))
  (first | refine V_cond rfl (fun hc2 => ?_) (fun hc2 => ?_) | refine V_seq (V_cond rfl (fun hc2 => ?_) (fun hc2 => ?_)))
  · refine V_skip ?_
    simp only [decide_eq_true_eq] at hc2
    obtain ⟨a, hget⟩ : ∃ a, f1[k]? = some a := ⟨_, List.getElem?_eq_getElem (by omega)⟩
    have hma := List.mem_of_getElem? hget
    obtain ⟨x0, x1, x2, rfl, g0, g1, g2⟩ := inv_MethodTable (hw a hma)
    have hcall := hcs x0 x1 x2 hma
    have hp1 := hp x0 x1 x2
    obtain ⟨r, hr⟩ : ∃ r, q x1 = r := ⟨_, rfl⟩
    rw [hr] at hcall hp1
    refine V_seq (V_block ?_)
    repeat (first | refine VO_d ?_ | refine VQ_d ?_ | (first | refine VO_q (Q_index rfl rfl TE.h TI.h (by omega) hget) rfl ?_ | refine VQ_q (Q_index rfl rfl TE.h TI.h (by omega) hget) rfl ?_ | (refine VO_bare rfl rfl rfl rfl ?_; refine VO_q (Q_index rfl rfl TE.h TI.h (by omega) hget) rfl ?_) | refine VQ_run rfl rfl rfl rfl (Q_index rfl rfl TE.h TI.h (by omega) hget) rfl ?_) | (first | refine VO_q (Q_load rfl TI.h (wt_isSt g1) (wt_sz _ _ g1)) rfl ?_ | refine VQ_q (Q_load rfl TI.h (wt_isSt g1) (wt_sz _ _ g1)) rfl ?_ | (refine VO_bare rfl rfl rfl rfl ?_; refine VO_q (Q_load rfl TI.h (wt_isSt g1) (wt_sz _ _ g1)) rfl ?_) | refine VQ_run rfl rfl rfl rfl (Q_load rfl TI.h (wt_isSt g1) (wt_sz _ _ g1)) rfl ?_) | (first | refine VO_nil ?_ | refine VQ_nil ?_) | (first | refine V_seq_region ?_ | refine V_seq (V_seq_region ?_) | refine V_seq_draw tmix (by kernel_rfl) ?_ | refine V_seq (V_seq_draw tmix (by kernel_rfl) ?_) | refine V_region ?_ | refine V_draw tmix (by kernel_rfl) ?_))
    cases hk0 : (x0 == s)
    · skip
      repeat (first | refine VO_d ?_ | refine VQ_d ?_ | (first | refine VO_q (Q_index rfl rfl TE.h TI.h (by omega) hget) rfl ?_ | refine VQ_q (Q_index rfl rfl TE.h TI.h (by omega) hget) rfl ?_ | (refine VO_bare rfl rfl rfl rfl ?_; refine VO_q (Q_index rfl rfl TE.h TI.h (by omega) hget) rfl ?_) | refine VQ_run rfl rfl rfl rfl (Q_index rfl rfl TE.h TI.h (by omega) hget) rfl ?_) | (first | refine VO_q (Q_load rfl TI.h (wt_isSt g1) (wt_sz _ _ g1)) rfl ?_ | refine VQ_q (Q_load rfl TI.h (wt_isSt g1) (wt_sz _ _ g1)) rfl ?_ | (refine VO_bare rfl rfl rfl rfl ?_; refine VO_q (Q_load rfl TI.h (wt_isSt g1) (wt_sz _ _ g1)) rfl ?_) | refine VQ_run rfl rfl rfl rfl (Q_load rfl TI.h (wt_isSt g1) (wt_sz _ _ g1)) rfl ?_) | (first | refine VO_nil ?_ | refine VQ_nil ?_) | (first | refine V_seq_region ?_ | refine V_seq (V_seq_region ?_) | refine V_seq_draw tmix (by kernel_rfl) ?_ | refine V_seq (V_seq_draw tmix (by kernel_rfl) ?_) | refine V_region ?_ | refine V_draw tmix (by kernel_rfl) ?_))
      (first | refine V_cond rfl (fun hc3 => ?_) (fun hc3 => ?_) | refine V_seq (V_cond rfl (fun hc3 => ?_) (fun hc3 => ?_)))
      · cases hc3
      refine V_skip ?_
      repeat (first | refine VO_d ?_ | refine VQ_d ?_  | (first | refine VO_nil ?_ | refine VQ_nil ?_) | (first | refine V_seq_region ?_ | refine V_seq (V_seq_region ?_) | refine V_seq_draw tmix (by kernel_rfl) ?_ | refine V_seq (V_seq_draw tmix (by kernel_rfl) ?_) | refine V_region ?_ | refine V_draw tmix (by kernel_rfl) ?_))
      refine ⟨k + 1, ⟨by omega, fun j b hj hb => ?_⟩, by omega, ⟨rfl, ⟨⟨rfl, rfl⟩, ⟨rfl, rfl⟩, ⟨rfl, rfl⟩, ⟨rfl, rfl⟩, trivial⟩, ⟨[], rfl⟩, rfl⟩⟩
      by_cases hjk : j = k
      · subst hjk; rw [hget] at hb; cases hb; rw [hp1]; rw [hk0]; rfl
      · exact hsame j b (by omega) hb
    repeat (first | refine VO_d ?_ | refine VQ_d ?_ | (first | refine VO_q (Q_index rfl rfl TE.h TI.h (by omega) hget) rfl ?_ | refine VQ_q (Q_index rfl rfl TE.h TI.h (by omega) hget) rfl ?_ | (refine VO_bare rfl rfl rfl rfl ?_; refine VO_q (Q_index rfl rfl TE.h TI.h (by omega) hget) rfl ?_) | refine VQ_run rfl rfl rfl rfl (Q_index rfl rfl TE.h TI.h (by omega) hget) rfl ?_) | (first | refine VO_q (Q_load rfl TI.h (wt_isSt g1) (wt_sz _ _ g1)) rfl ?_ | refine VQ_q (Q_load rfl TI.h (wt_isSt g1) (wt_sz _ _ g1)) rfl ?_ | (refine VO_bare rfl rfl rfl rfl ?_; refine VO_q (Q_load rfl TI.h (wt_isSt g1) (wt_sz _ _ g1)) rfl ?_) | refine VQ_run rfl rfl rfl rfl (Q_load rfl TI.h (wt_isSt g1) (wt_sz _ _ g1)) rfl ?_) | (first | refine VO_q (Q_call rfl hcall (by repeat (first | exact trivial | exact rfl | exact ⟨_, rfl⟩ | refine And.intro ?_ ?_))) rfl ?_ | refine VQ_q (Q_call rfl hcall (by repeat (first | exact trivial | exact rfl | exact ⟨_, rfl⟩ | refine And.intro ?_ ?_))) rfl ?_ | (refine VO_bare rfl rfl rfl rfl ?_; refine VO_q (Q_call rfl hcall (by repeat (first | exact trivial | exact rfl | exact ⟨_, rfl⟩ | refine And.intro ?_ ?_))) rfl ?_) | refine VQ_run rfl rfl rfl rfl (Q_call rfl hcall (by repeat (first | exact trivial | exact rfl | exact ⟨_, rfl⟩ | refine And.intro ?_ ?_))) rfl ?_) | (first | refine VO_nil ?_ | refine VQ_nil ?_) | (first | refine V_seq_region ?_ | refine V_seq (V_seq_region ?_) | refine V_seq_draw tmix (by kernel_rfl) ?_ | refine V_seq (V_seq_draw tmix (by kernel_rfl) ?_) | refine V_region ?_ | refine V_draw tmix (by kernel_rfl) ?_))
    cases r
    · skip
      repeat (first | refine VO_d ?_ | refine VQ_d ?_  | (first | refine VO_nil ?_ | refine VQ_nil ?_) | (first | refine V_seq_region ?_ | refine V_seq (V_seq_region ?_) | refine V_seq_draw tmix (by kernel_rfl) ?_ | refine V_seq (V_seq_draw tmix (by kernel_rfl) ?_) | refine V_region ?_ | refine V_draw tmix (by kernel_rfl) ?_))
      (first | refine V_cond rfl (fun hc3 => ?_) (fun hc3 => ?_) | refine V_seq (V_cond rfl (fun hc3 => ?_) (fun hc3 => ?_)))
      · cases hc3
      refine V_skip ?_
      repeat (first | refine VO_d ?_ | refine VQ_d ?_  | (first | refine VO_nil ?_ | refine VQ_nil ?_) | (first | refine V_seq_region ?_ | refine V_seq (V_seq_region ?_) | refine V_seq_draw tmix (by kernel_rfl) ?_ | refine V_seq (V_seq_draw tmix (by kernel_rfl) ?_) | refine V_region ?_ | refine V_draw tmix (by kernel_rfl) ?_))
      refine ⟨k + 1, ⟨by omega, fun j b hj hb => ?_⟩, by omega, ⟨rfl, ⟨⟨rfl, rfl⟩, ⟨rfl, rfl⟩, ⟨rfl, rfl⟩, ⟨rfl, rfl⟩, trivial⟩, ⟨[], rfl⟩, rfl⟩⟩
      by_cases hjk : j = k
      · subst hjk; rw [hget] at hb; cases hb; rw [hp1]; simp
      · exact hsame j b (by omega) hb
    repeat (first | refine VO_d ?_ | refine VQ_d ?_  | (first | refine VO_nil ?_ | refine VQ_nil ?_) | (first | refine V_seq_region ?_ | refine V_seq (V_seq_region ?_) | refine V_seq_draw tmix (by kernel_rfl) ?_ | refine V_seq (V_seq_draw tmix (by kernel_rfl) ?_) | refine V_region ?_ | refine V_draw tmix (by kernel_rfl) ?_))
    (first | refine V_cond rfl (fun hc3 => ?_) (fun hc3 => ?_) | refine V_seq (V_cond rfl (fun hc3 => ?_) (fun hc3 => ?_)))
    · repeat (first | refine VO_d ?_ | refine VQ_d ?_  | (first | refine VO_nil ?_ | refine VQ_nil ?_) | (first | refine V_seq_region ?_ | refine V_seq (V_seq_region ?_) | refine V_seq_draw tmix (by kernel_rfl) ?_ | refine V_seq (V_seq_draw tmix (by kernel_rfl) ?_) | refine V_region ?_ | refine V_draw tmix (by kernel_rfl) ?_))
      refine V_ret ?_
      exact ⟨trivial, ⟨_, rfl, congrArg (U.i .i64) (fidx_hit hget (by rw [hp1, hk0]; rfl) hsame).symm⟩, trivial⟩
    · cases hc3
  · refine V_exit ?_
    simp only [decide_eq_false_iff_not] at hc2
    have hkl : k = f1.length := by omega
    subst hkl
    show V _ _ _ _ _
    repeat (first | refine VO_d ?_ | refine VQ_d ?_  | (first | refine VO_nil ?_ | refine VQ_nil ?_) | (first | refine V_seq_region ?_ | refine V_seq (V_seq_region ?_) | refine V_seq_draw tmix (by kernel_rfl) ?_ | refine V_seq (V_seq_draw tmix (by kernel_rfl) ?_) | refine V_region ?_ | refine V_draw tmix (by kernel_rfl) ?_))
    refine V_ret ?_
    exact ⟨trivial, ⟨_, rfl, congrArg (U.i .i64) (fidx_none hsame).symm⟩, trivial⟩

theorem bothFindTable {u0 u1 : U} {u2 : U} (w0 : wt (.st 31) u0) (w1 : wt .str u1) (w2 : wt (.st 1) u2) : ∃ n : Int, SpecP Try.prog 9 [.d u0, .d u1, .d u2] [.i .i64 n] ∧ SpecP Try.prog 12 [.d u0, .d u1, .d u2] [.i .i64 n] := by
  obtain ⟨f0, f1, rfl, h0, h1⟩ := inv_MonoProgram w0
  obtain ⟨s, rfl, _⟩ := inv_str w1
  exact ⟨_, specFindTable h1 w2, implFindTable h1 w2⟩

set_option maxHeartbeats 4000000 in
theorem indexFunc_Specialization {fi : Nat} {caps : List SV} {p : U → Bool} {us : List U} (hb1 : us.length ≤ big) (hw : ∀ a ∈ us, wt (.st 28) a) (hcap : SV.lts 0 caps = true) (ih : ∀ a ∈ us, SpecP Try.prog fi (.d a :: caps) [.b (p a)]) :
    SpecP Try.prog 38 [.d (.sl 14 us), .fn fi caps] [.i .i64 (fidx p us)] := by
  rw [big_eq] at hb1
  refine SpecP_intro Try.func38 rfl (by kernel_rfl) rfl fun A => ?_
  repeat (first | refine VO_d ?_ | refine VQ_d ?_  | (first | refine VO_nil ?_ | refine VQ_nil ?_) | (first | refine V_seq_region ?_ | refine V_seq (V_seq_region ?_) | refine V_seq_draw tmix (by kernel_rfl) ?_ | refine V_seq (V_seq_draw tmix (by kernel_rfl) ?_) | refine V_region ?_ | refine V_draw tmix (by kernel_rfl) ?_))
  refine V_block ?_
  refine V_loop (α := Nat)
    (fun k => ⟨[(0, .d (.sl 14 us)), (1, .fn fi caps), (7, .d (.i .i64 us.length)), (8, .d (.i .i64 k))], [], Try.f38.ntmps⟩)
    (fun k => k ≤ us.length ∧ ∀ j b, j < k → us[j]? = some b → p b = false)
    (fun k => us.length - k) 0 ⟨rfl, ⟨⟨rfl, rfl⟩, ⟨rfl, hcap⟩, ⟨rfl, rfl⟩, ⟨rfl, rfl⟩, trivial⟩, ⟨[], rfl⟩, rfl⟩ ⟨by simp, by simp⟩ ?_
  rintro k ⟨hk, hsame⟩
  repeat (first | refine VO_d ?_ | refine VQ_d ?_  | (first | refine VO_nil ?_ | refine VQ_nil ?_) | (first | refine V_seq_region ?_ | refine V_seq (V_seq_region ?_) | refine V_seq_draw tmix (by kernel_rfl) ?_ | refine V_seq (V_seq_draw tmix (by kernel_rfl) ?_) | refine V_region ?_ | refine V_draw tmix (by kernel_rfl) ?_))
  (first | refine V_cond rfl (fun hc2 => ?_) (fun hc2 => ?_) | refine V_seq (V_cond rfl (fun hc2 => ?_) (fun hc2 => ?_)))
  · refine V_skip ?_
    simp only [decide_eq_true_eq] at hc2
    obtain ⟨a, hget⟩ : ∃ a, us[k]? = some a := ⟨_, List.getElem?_eq_getElem (by omega)⟩
    have hma := List.mem_of_getElem? hget
    have hwa := hw a hma
    have hcall := ih a hma
    obtain ⟨r, hr⟩ : ∃ r, p a = r := ⟨_, rfl⟩
    rw [hr] at hcall
    refine V_seq (V_block ?_)
    repeat (first | refine VO_d ?_ | refine VQ_d ?_ | (first | refine VO_q (Q_index rfl rfl TE.h TI.h (by omega) hget) rfl ?_ | refine VQ_q (Q_index rfl rfl TE.h TI.h (by omega) hget) rfl ?_ | (refine VO_bare rfl rfl rfl rfl ?_; refine VO_q (Q_index rfl rfl TE.h TI.h (by omega) hget) rfl ?_) | refine VQ_run rfl rfl rfl rfl (Q_index rfl rfl TE.h TI.h (by omega) hget) rfl ?_) | (first | refine VO_q (Q_load rfl TI.h (wt_isSt hwa) (wt_sz _ _ hwa)) rfl ?_ | refine VQ_q (Q_load rfl TI.h (wt_isSt hwa) (wt_sz _ _ hwa)) rfl ?_ | (refine VO_bare rfl rfl rfl rfl ?_; refine VO_q (Q_load rfl TI.h (wt_isSt hwa) (wt_sz _ _ hwa)) rfl ?_) | refine VQ_run rfl rfl rfl rfl (Q_load rfl TI.h (wt_isSt hwa) (wt_sz _ _ hwa)) rfl ?_) | (first | refine VO_q (Q_callc (dargs := [.d a]) rfl hcall (by repeat (first | exact trivial | exact rfl | exact ⟨_, rfl⟩ | refine And.intro ?_ ?_)) hcap) rfl ?_ | refine VQ_q (Q_callc (dargs := [.d a]) rfl hcall (by repeat (first | exact trivial | exact rfl | exact ⟨_, rfl⟩ | refine And.intro ?_ ?_)) hcap) rfl ?_ | (refine VO_bare rfl rfl rfl rfl ?_; refine VO_q (Q_callc (dargs := [.d a]) rfl hcall (by repeat (first | exact trivial | exact rfl | exact ⟨_, rfl⟩ | refine And.intro ?_ ?_)) hcap) rfl ?_) | refine VQ_run rfl rfl rfl rfl (Q_callc (dargs := [.d a]) rfl hcall (by repeat (first | exact trivial | exact rfl | exact ⟨_, rfl⟩ | refine And.intro ?_ ?_)) hcap) rfl ?_) | (first | refine VO_nil ?_ | refine VQ_nil ?_) | (first | refine V_seq_region ?_ | refine V_seq (V_seq_region ?_) | refine V_seq_draw tmix (by kernel_rfl) ?_ | refine V_seq (V_seq_draw tmix (by kernel_rfl) ?_) | refine V_region ?_ | refine V_draw tmix (by kernel_rfl) ?_))
    (first | refine V_cond rfl (fun hc3 => ?_) (fun hc3 => ?_) | refine V_seq (V_cond rfl (fun hc3 => ?_) (fun hc3 => ?_)))
    · repeat (first | refine VO_d ?_ | refine VQ_d ?_  | (first | refine VO_nil ?_ | refine VQ_nil ?_) | (first | refine V_seq_region ?_ | refine V_seq (V_seq_region ?_) | refine V_seq_draw tmix (by kernel_rfl) ?_ | refine V_seq (V_seq_draw tmix (by kernel_rfl) ?_) | refine V_region ?_ | refine V_draw tmix (by kernel_rfl) ?_))
      refine V_ret ?_
      exact ⟨trivial, ⟨_, rfl, congrArg (U.i .i64) (fidx_hit hget (by rw [hr]; exact hc3) hsame).symm⟩, trivial⟩
    refine V_skip ?_
    repeat (first | refine VO_d ?_ | refine VQ_d ?_  | (first | refine VO_nil ?_ | refine VQ_nil ?_) | (first | refine V_seq_region ?_ | refine V_seq (V_seq_region ?_) | refine V_seq_draw tmix (by kernel_rfl) ?_ | refine V_seq (V_seq_draw tmix (by kernel_rfl) ?_) | refine V_region ?_ | refine V_draw tmix (by kernel_rfl) ?_))
    refine ⟨k + 1, ⟨by omega, fun j b hj hb => ?_⟩, by omega, ⟨rfl, ⟨⟨rfl, rfl⟩, ⟨rfl, hcap⟩, ⟨rfl, rfl⟩, ⟨rfl, rfl⟩, trivial⟩, ⟨_, rfl⟩, rfl⟩⟩
    by_cases hjk : j = k
    · subst hjk; rw [hget] at hb; cases hb; rw [hr]; exact hc3
    · exact hsame j b (by omega) hb
  · refine V_exit ?_
    simp only [decide_eq_false_iff_not] at hc2
    have hkl : k = us.length := by omega
    subst hkl
    show V _ _ _ _ _
    repeat (first | refine VO_d ?_ | refine VQ_d ?_  | (first | refine VO_nil ?_ | refine VQ_nil ?_) | (first | refine V_seq_region ?_ | refine V_seq (V_seq_region ?_) | refine V_seq_draw tmix (by kernel_rfl) ?_ | refine V_seq (V_seq_draw tmix (by kernel_rfl) ?_) | refine V_region ?_ | refine V_draw tmix (by kernel_rfl) ?_))
    refine V_ret ?_
    exact ⟨trivial, ⟨_, rfl, congrArg (U.i .i64) (fidx_none hsame).symm⟩, trivial⟩

noncomputable def pFindSpecialization (s : Int) (t : List U) : U → Bool
  | .st [.i _ x, .sl z y, _, _] => x == s && deq (.sl z y) (.sl 3 t)
  | _ => false

set_option maxHeartbeats 4000000 in
theorem implFindSpecialization1 {x0 : Int} {x1 : List U} {x2 : List U} {x3 : U} {s : Int} {t : List U} (g3 : wt (.st 21) x3) (h1 : SpecP Try.prog 40 [.d (.sl 3 x1), .d (.sl 3 t)] [.b (deq (.sl 3 x1) (.sl 3 t))]) :
    SpecP Try.prog 39 [.d (.st [.i .i64 x0, .sl 3 x1, .sl 1 x2, x3]), .dp (.i .i64 s), .dp (.sl 3 t)] [.b (pFindSpecialization s t (.st [.i .i64 x0, .sl 3 x1, .sl 1 x2, x3]))] := by
  show SpecP _ _ _ [.b (x0 == s && deq (.sl 3 x1) (.sl 3 t))]
  obtain ⟨r, hr⟩ : ∃ r, deq (.sl 3 x1) (.sl 3 t) = r := ⟨_, rfl⟩
  rw [hr] at h1 ⊢
  obtain ⟨x3_0, x3_1, x3_2, x3_3, x3_4, x3_5, x3_6, x3_7, x3_8, rfl, g3_0, g3_1, g3_2, g3_3, g3_4, g3_5, g3_6, g3_7, g3_8⟩ := inv_Core g3
  obtain ⟨x3_4_0, x3_4_1, x3_4_2, rfl, g3_4_0, g3_4_1, g3_4_2⟩ := inv_Type g3_4
  refine SpecP_intro Try.func39 rfl (by kernel_rfl) rfl fun A => ?_
  repeat (first | refine VO_d ?_ | refine VQ_d ?_  | (first | refine VO_nil ?_ | refine VQ_nil ?_) | (first | refine V_seq_region ?_ | refine V_seq (V_seq_region ?_) | refine V_seq_draw tmix (by kernel_rfl) ?_ | refine V_seq (V_seq_draw tmix (by kernel_rfl) ?_) | refine V_region ?_ | refine V_draw tmix (by kernel_rfl) ?_))
  cases hk : (x0 == s)
  · repeat (first | refine VO_d ?_ | refine VQ_d ?_  | (first | refine VO_nil ?_ | refine VQ_nil ?_) | (first | refine V_seq_region ?_ | refine V_seq (V_seq_region ?_) | refine V_seq_draw tmix (by kernel_rfl) ?_ | refine V_seq (V_seq_draw tmix (by kernel_rfl) ?_) | refine V_region ?_ | refine V_draw tmix (by kernel_rfl) ?_))
    refine V_ret ?_
    exact ⟨trivial, ⟨_, rfl, rfl⟩, trivial⟩
  repeat (first | refine VO_d ?_ | refine VQ_d ?_ | (first | refine VO_q (Q_call rfl h1 (by repeat (first | exact trivial | exact rfl | exact ⟨_, rfl⟩ | refine And.intro ?_ ?_))) rfl ?_ | refine VQ_q (Q_call rfl h1 (by repeat (first | exact trivial | exact rfl | exact ⟨_, rfl⟩ | refine And.intro ?_ ?_))) rfl ?_ | (refine VO_bare rfl rfl rfl rfl ?_; refine VO_q (Q_call rfl h1 (by repeat (first | exact trivial | exact rfl | exact ⟨_, rfl⟩ | refine And.intro ?_ ?_))) rfl ?_) | refine VQ_run rfl rfl rfl rfl (Q_call rfl h1 (by repeat (first | exact trivial | exact rfl | exact ⟨_, rfl⟩ | refine And.intro ?_ ?_))) rfl ?_) | (first | refine VO_nil ?_ | refine VQ_nil ?_) | (first | refine V_seq_region ?_ | refine V_seq (V_seq_region ?_) | refine V_seq_draw tmix (by kernel_rfl) ?_ | refine V_seq (V_seq_draw tmix (by kernel_rfl) ?_) | refine V_region ?_ | refine V_draw tmix (by kernel_rfl) ?_))
  refine V_ret ?_
  exact ⟨trivial, ⟨_, rfl, rfl⟩, trivial⟩

set_option maxHeartbeats 4000000 in
theorem implFindSpecialization {f0 f1 : List U} {s : Int} {t : List U} (h0 : f0.length ≤ big ∧ ∀ x ∈ f0, wt (.st 28) x) (ht : t.length ≤ big ∧ ∀ x ∈ t, wt (.st 1) x) : SpecP Try.prog 18 [.d (.st [.sl 14 f0, .sl 5 f1]), .d (.i .i64 s), .d (.sl 3 t)] [.i .i64 (fidx (pFindSpecialization s t) f0)] := by
  have hF : SpecP Try.prog 38 [.d (.sl 14 f0), .fn 39 [.dp (.i .i64 s), .dp (.sl 3 t)]] [.i .i64 (fidx (pFindSpecialization s t) f0)] := indexFunc_Specialization h0.1 h0.2 rfl (fun a ha => by obtain ⟨x0, x1, x2, x3, rfl, g0, g1, g2, g3⟩ := inv_Specialization (h0.2 a ha); exact implFindSpecialization1 g3  (implTypes g1 ht))
  generalize fidx (pFindSpecialization s t) f0 = n at hF ⊢
  refine SpecP_intro Try.func18 rfl (by kernel_rfl) rfl fun A => ?_
  repeat (first | refine VO_d ?_ | refine VQ_d ?_ | (first | refine VO_q (Q_mkfn (by repeat constructor)) rfl ?_ | refine VQ_q (Q_mkfn (by repeat constructor)) rfl ?_ | (refine VO_bare rfl rfl rfl rfl ?_; refine VO_q (Q_mkfn (by repeat constructor)) rfl ?_) | refine VQ_run rfl rfl rfl rfl (Q_mkfn (by repeat constructor)) rfl ?_) | (first | refine VO_q (Q_callb rfl hF rfl (by repeat (first | exact trivial | exact rfl | exact ⟨_, rfl⟩ | refine And.intro ?_ ?_ | refine ⟨_, rfl, ?_⟩)) rfl) rfl ?_ | refine VQ_q (Q_callb rfl hF rfl (by repeat (first | exact trivial | exact rfl | exact ⟨_, rfl⟩ | refine And.intro ?_ ?_ | refine ⟨_, rfl, ?_⟩)) rfl) rfl ?_ | (refine VO_bare rfl rfl rfl rfl ?_; refine VO_q (Q_callb rfl hF rfl (by repeat (first | exact trivial | exact rfl | exact ⟨_, rfl⟩ | refine And.intro ?_ ?_ | refine ⟨_, rfl, ?_⟩)) rfl) rfl ?_) | refine VQ_run rfl rfl rfl rfl (Q_callb rfl hF rfl (by repeat (first | exact trivial | exact rfl | exact ⟨_, rfl⟩ | refine And.intro ?_ ?_ | refine ⟨_, rfl, ?_⟩)) rfl) rfl ?_) | (first | refine VO_nil ?_ | refine VQ_nil ?_) | (first | refine V_seq_region ?_ | refine V_seq (V_seq_region ?_) | refine V_seq_draw tmix (by kernel_rfl) ?_ | refine V_seq (V_seq_draw tmix (by kernel_rfl) ?_) | refine V_region ?_ | refine V_draw tmix (by kernel_rfl) ?_))
  refine V_ret ?_
  exact ⟨trivial, ⟨_, rfl, rfl⟩, trivial⟩

set_option maxHeartbeats 8000000 in
theorem specFindSpecialization {f0 f1 : List U} {s : Int} {t : List U} (h0 : f0.length ≤ big ∧ ∀ x ∈ f0, wt (.st 28) x) (ht : t.length ≤ big ∧ ∀ x ∈ t, wt (.st 1) x) : SpecP Try.prog 16 [.d (.st [.sl 14 f0, .sl 5 f1]), .d (.i .i64 s), .d (.sl 3 t)] [.i .i64 (fidx (pFindSpecialization s t) f0)] := by
  obtain ⟨hb1, hw⟩ := h0
  rw [big_eq] at hb1
  obtain ⟨q, hq⟩ : ∃ q : U → Bool, ∀ y, q y = deq y (.sl 3 t) := ⟨_, fun _ => rfl⟩
  have hcs : ∀ (x0 : Int) (x1 : List U) (x2 : List U) (x3 : U), .st [.i .i64 x0, .sl 3 x1, .sl 1 x2, x3] ∈ f0 → SpecP Try.prog 37 [.d (.sl 3 x1), .d (.sl 3 t)] [.b (q (.sl 3 x1))] := by
    intro x0 x1 x2 x3 ha
    have hwa := hw _ ha
    rw [hq]
    obtain ⟨x0, x1, x2, x3, hx, g0, g1, g2, g3⟩ := inv_Specialization hwa
    cases hx
    exact (specTypes_step g1.1 ht.1 (fun a ha => ⟨wt_isSt (g1.2 a ha), by rw [wt_sz a _ (g1.2 a ha)]; rfl⟩) (fun a ha => ⟨wt_isSt (ht.2 a ha), by rw [wt_sz a _ (ht.2 a ha)]; rfl⟩) (fun a ha b hb => specEqualType a (g1.2 a ha) b (ht.2 b hb)))
  have hp : ∀ (x0 : Int) (x1 : List U) (x2 : List U) (x3 : U), pFindSpecialization s t (.st [.i .i64 x0, .sl 3 x1, .sl 1 x2, x3]) = (x0 == s && q (.sl 3 x1)) := by
    intro x0 x1 x2 x3
    rw [hq]
    rfl
  generalize pFindSpecialization s t = p at hp ⊢
  clear hq
  refine SpecP_intro Try.func16 rfl (by kernel_rfl) rfl fun A => ?_
  repeat (first | refine VO_d ?_ | refine VQ_d ?_  | (first | refine VO_nil ?_ | refine VQ_nil ?_) | (first | refine V_seq_region ?_ | refine V_seq (V_seq_region ?_) | refine V_seq_draw tmix (by kernel_rfl) ?_ | refine V_seq (V_seq_draw tmix (by kernel_rfl) ?_) | refine V_region ?_ | refine V_draw tmix (by kernel_rfl) ?_))
  refine V_block ?_
  refine V_loop (α := Nat)
    (fun k => ⟨[(1, .d (.i .i64 s)), (2, .d (.sl 3 t)), (3, .ptr 0 0), (7, .d (.i .i64 k))], [.box [.d (.sl 14 f0), .d (.sl 5 f1)]], Try.f16.ntmps⟩)
    (fun k => k ≤ f0.length ∧ ∀ j b, j < k → f0[j]? = some b → p b = false)
    (fun k => f0.length - k) 0 ⟨rfl, ⟨⟨rfl, rfl⟩, ⟨rfl, rfl⟩, ⟨rfl, rfl⟩, ⟨rfl, rfl⟩, trivial⟩, ⟨[], rfl⟩, rfl⟩ ⟨by simp, by simp⟩ ?_
  rintro k ⟨hk, hsame⟩
  repeat (first | refine VO_d ?_ | refine VQ_d ?_  | (first | refine VO_nil ?_ | refine VQ_nil ?_) | (first | refine V_seq_region ?_ | refine V_seq (V_seq_region ?_) | refine V_seq_draw tmix (by kernel_rfl) ?_ | refine V_seq (V_seq_draw tmix (by kernel_rfl) ?_) | refine V_region ?_ | refine V_draw tmix (by kernel_rfl) ?_))
  (first | refine V_cond rfl (fun hc2 => ?_) (fun hc2 => ?_) | refine V_seq (V_cond rfl (fun hc2 => ?_) (fun hc2 => ?_)))
  · refine V_skip ?_
    simp only [decide_eq_true_eq] at hc2
    obtain ⟨a, hget⟩ : ∃ a, f0[k]? = some a := ⟨_, List.getElem?_eq_getElem (by omega)⟩
    have hma := List.mem_of_getElem? hget
    obtain ⟨x0, x1, x2, x3, rfl, g0, g1, g2, g3⟩ := inv_Specialization (hw a hma)
    have hcall := hcs x0 x1 x2 x3 hma
    have hp1 := hp x0 x1 x2 x3
    obtain ⟨r, hr⟩ : ∃ r, q (.sl 3 x1) = r := ⟨_, rfl⟩
    rw [hr] at hcall hp1
    refine V_seq (V_block ?_)
    repeat (first | refine VO_d ?_ | refine VQ_d ?_ | (first | refine VO_q (Q_index rfl rfl TE.h TI.h (by omega) hget) rfl ?_ | refine VQ_q (Q_index rfl rfl TE.h TI.h (by omega) hget) rfl ?_ | (refine VO_bare rfl rfl rfl rfl ?_; refine VO_q (Q_index rfl rfl TE.h TI.h (by omega) hget) rfl ?_) | refine VQ_run rfl rfl rfl rfl (Q_index rfl rfl TE.h TI.h (by omega) hget) rfl ?_) | (first | refine VO_nil ?_ | refine VQ_nil ?_) | (first | refine V_seq_region ?_ | refine V_seq (V_seq_region ?_) | refine V_seq_draw tmix (by kernel_rfl) ?_ | refine V_seq (V_seq_draw tmix (by kernel_rfl) ?_) | refine V_region ?_ | refine V_draw tmix (by kernel_rfl) ?_))
    cases hk0 : (x0 == s)
    · skip
      repeat (first | refine VO_d ?_ | refine VQ_d ?_ | (first | refine VO_q (Q_index rfl rfl TE.h TI.h (by omega) hget) rfl ?_ | refine VQ_q (Q_index rfl rfl TE.h TI.h (by omega) hget) rfl ?_ | (refine VO_bare rfl rfl rfl rfl ?_; refine VO_q (Q_index rfl rfl TE.h TI.h (by omega) hget) rfl ?_) | refine VQ_run rfl rfl rfl rfl (Q_index rfl rfl TE.h TI.h (by omega) hget) rfl ?_) | (first | refine VO_nil ?_ | refine VQ_nil ?_) | (first | refine V_seq_region ?_ | refine V_seq (V_seq_region ?_) | refine V_seq_draw tmix (by kernel_rfl) ?_ | refine V_seq (V_seq_draw tmix (by kernel_rfl) ?_) | refine V_region ?_ | refine V_draw tmix (by kernel_rfl) ?_))
      (first | refine V_cond rfl (fun hc3 => ?_) (fun hc3 => ?_) | refine V_seq (V_cond rfl (fun hc3 => ?_) (fun hc3 => ?_)))
      · cases hc3
      refine V_skip ?_
      repeat (first | refine VO_d ?_ | refine VQ_d ?_  | (first | refine VO_nil ?_ | refine VQ_nil ?_) | (first | refine V_seq_region ?_ | refine V_seq (V_seq_region ?_) | refine V_seq_draw tmix (by kernel_rfl) ?_ | refine V_seq (V_seq_draw tmix (by kernel_rfl) ?_) | refine V_region ?_ | refine V_draw tmix (by kernel_rfl) ?_))
      refine ⟨k + 1, ⟨by omega, fun j b hj hb => ?_⟩, by omega, ⟨rfl, ⟨⟨rfl, rfl⟩, ⟨rfl, rfl⟩, ⟨rfl, rfl⟩, ⟨rfl, rfl⟩, trivial⟩, ⟨[], rfl⟩, rfl⟩⟩
      by_cases hjk : j = k
      · subst hjk; rw [hget] at hb; cases hb; rw [hp1]; rw [hk0]; rfl
      · exact hsame j b (by omega) hb
    repeat (first | refine VO_d ?_ | refine VQ_d ?_ | (first | refine VO_q (Q_index rfl rfl TE.h TI.h (by omega) hget) rfl ?_ | refine VQ_q (Q_index rfl rfl TE.h TI.h (by omega) hget) rfl ?_ | (refine VO_bare rfl rfl rfl rfl ?_; refine VO_q (Q_index rfl rfl TE.h TI.h (by omega) hget) rfl ?_) | refine VQ_run rfl rfl rfl rfl (Q_index rfl rfl TE.h TI.h (by omega) hget) rfl ?_) | (first | refine VO_q (Q_call rfl hcall (by repeat (first | exact trivial | exact rfl | exact ⟨_, rfl⟩ | refine And.intro ?_ ?_))) rfl ?_ | refine VQ_q (Q_call rfl hcall (by repeat (first | exact trivial | exact rfl | exact ⟨_, rfl⟩ | refine And.intro ?_ ?_))) rfl ?_ | (refine VO_bare rfl rfl rfl rfl ?_; refine VO_q (Q_call rfl hcall (by repeat (first | exact trivial | exact rfl | exact ⟨_, rfl⟩ | refine And.intro ?_ ?_))) rfl ?_) | refine VQ_run rfl rfl rfl rfl (Q_call rfl hcall (by repeat (first | exact trivial | exact rfl | exact ⟨_, rfl⟩ | refine And.intro ?_ ?_))) rfl ?_) | (first | refine VO_nil ?_ | refine VQ_nil ?_) | (first | refine V_seq_region ?_ | refine V_seq (V_seq_region ?_) | refine V_seq_draw tmix (by kernel_rfl) ?_ | refine V_seq (V_seq_draw tmix (by kernel_rfl) ?_) | refine V_region ?_ | refine V_draw tmix (by kernel_rfl) ?_))
    cases r
    · skip
      repeat (first | refine VO_d ?_ | refine VQ_d ?_  | (first | refine VO_nil ?_ | refine VQ_nil ?_) | (first | refine V_seq_region ?_ | refine V_seq (V_seq_region ?_) | refine V_seq_draw tmix (by kernel_rfl) ?_ | refine V_seq (V_seq_draw tmix (by kernel_rfl) ?_) | refine V_region ?_ | refine V_draw tmix (by kernel_rfl) ?_))
      (first | refine V_cond rfl (fun hc3 => ?_) (fun hc3 => ?_) | refine V_seq (V_cond rfl (fun hc3 => ?_) (fun hc3 => ?_)))
      · cases hc3
      refine V_skip ?_
      repeat (first | refine VO_d ?_ | refine VQ_d ?_  | (first | refine VO_nil ?_ | refine VQ_nil ?_) | (first | refine V_seq_region ?_ | refine V_seq (V_seq_region ?_) | refine V_seq_draw tmix (by kernel_rfl) ?_ | refine V_seq (V_seq_draw tmix (by kernel_rfl) ?_) | refine V_region ?_ | refine V_draw tmix (by kernel_rfl) ?_))
      refine ⟨k + 1, ⟨by omega, fun j b hj hb => ?_⟩, by omega, ⟨rfl, ⟨⟨rfl, rfl⟩, ⟨rfl, rfl⟩, ⟨rfl, rfl⟩, ⟨rfl, rfl⟩, trivial⟩, ⟨[], rfl⟩, rfl⟩⟩
      by_cases hjk : j = k
      · subst hjk; rw [hget] at hb; cases hb; rw [hp1]; simp
      · exact hsame j b (by omega) hb
    repeat (first | refine VO_d ?_ | refine VQ_d ?_  | (first | refine VO_nil ?_ | refine VQ_nil ?_) | (first | refine V_seq_region ?_ | refine V_seq (V_seq_region ?_) | refine V_seq_draw tmix (by kernel_rfl) ?_ | refine V_seq (V_seq_draw tmix (by kernel_rfl) ?_) | refine V_region ?_ | refine V_draw tmix (by kernel_rfl) ?_))
    (first | refine V_cond rfl (fun hc3 => ?_) (fun hc3 => ?_) | refine V_seq (V_cond rfl (fun hc3 => ?_) (fun hc3 => ?_)))
    · repeat (first | refine VO_d ?_ | refine VQ_d ?_  | (first | refine VO_nil ?_ | refine VQ_nil ?_) | (first | refine V_seq_region ?_ | refine V_seq (V_seq_region ?_) | refine V_seq_draw tmix (by kernel_rfl) ?_ | refine V_seq (V_seq_draw tmix (by kernel_rfl) ?_) | refine V_region ?_ | refine V_draw tmix (by kernel_rfl) ?_))
      refine V_ret ?_
      exact ⟨trivial, ⟨_, rfl, congrArg (U.i .i64) (fidx_hit hget (by rw [hp1, hk0]; rfl) hsame).symm⟩, trivial⟩
    · cases hc3
  · refine V_exit ?_
    simp only [decide_eq_false_iff_not] at hc2
    have hkl : k = f0.length := by omega
    subst hkl
    show V _ _ _ _ _
    repeat (first | refine VO_d ?_ | refine VQ_d ?_  | (first | refine VO_nil ?_ | refine VQ_nil ?_) | (first | refine V_seq_region ?_ | refine V_seq (V_seq_region ?_) | refine V_seq_draw tmix (by kernel_rfl) ?_ | refine V_seq (V_seq_draw tmix (by kernel_rfl) ?_) | refine V_region ?_ | refine V_draw tmix (by kernel_rfl) ?_))
    refine V_ret ?_
    exact ⟨trivial, ⟨_, rfl, congrArg (U.i .i64) (fidx_none hsame).symm⟩, trivial⟩

theorem bothFindSpecialization {u0 u1 : U} {us2 : List U} (w0 : wt (.st 31) u0) (w1 : wt .int u1) (w2 : us2.length ≤ big ∧ ∀ x ∈ us2, wt (.st 1) x) : ∃ n : Int, SpecP Try.prog 16 [.d u0, .d u1, .d (.sl 3 us2)] [.i .i64 n] ∧ SpecP Try.prog 18 [.d u0, .d u1, .d (.sl 3 us2)] [.i .i64 n] := by
  obtain ⟨f0, f1, rfl, h0, h1⟩ := inv_MonoProgram w0
  obtain ⟨s, rfl, _⟩ := inv_int w1
  exact ⟨_, specFindSpecialization h0 w2, implFindSpecialization h0 w2⟩

end Go.Proofs.Ytbhigchfphnkhaa
