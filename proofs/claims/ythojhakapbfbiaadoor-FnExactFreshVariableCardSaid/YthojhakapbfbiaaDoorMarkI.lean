/- The contracts of the laws' own helpers that own or turn memory. Written by a program of mine (famO.py). -/
import Derived.Test.YthojhakapbfbiaaDoorFamI
import Derived.Test.YthojhakapbfbiaaDoorEng28
set_option linter.unusedVariables false
set_option linter.unusedSimpArgs false
namespace Go.Proofs.YthojhakapbfbiaaDoor
open Go Go.Eng
attribute [local irreducible] V VO VQ VY Quiet SpecP SpecO MSpec
abbrev PToO (f : Nat) (es : List TypeId) (u : U) : Prop := W u ≤ 1048576 → SpecO Tryd.prog f [.d u] es [u]
abbrev PMk (f : Nat) (u : U) : Prop := ∀ k : Int, 0 < k → k + u.lf ≤ 4611686018427387904 → MSpec Tryd.prog f u k (u.mkt k).1 (u.mkt k).2
abbrev PHe (f : Nat) (u : U) : Prop := ∀ k : Int, 0 < k → k + u.lf ≤ 4611686018427387904 → SpecP Tryd.prog f [.d (u.mkt k).1, .d (.i .i64 k)] [.i .i64 (u.mkt k).2]

theorem zt_Type : ZeroT (.st [.i .i64 0, .s [], .sl 3 []]) [.int .i64 0, .string ⟨#[]⟩, .slice none 0 0] := zeroT (by repeat constructor) (by repeat constructor)
set_option maxHeartbeats 4000000 in
theorem toOTypeS_step {us : List U} (hz : ∀ a ∈ us, wt (.st 1) a) (ih : ∀ a ∈ us, PToO 97 [35] a) : PToO 108 [35] (.sl 3 us) := by
  intro hw
  have hW : W (.sl 3 us) = us.length + Ws us := rfl
  refine SpecO_intro Tryd.func108 rfl (by kernel_rfl) rfl (by simp) fun A _ => ?_
  repeat (first | refine VO_d ?_ | refine VQ_d ?_  | (first | refine VO_nil ?_ | refine VQ_nil ?_) | (first | refine V_seq_region ?_ | refine V_seq (V_seq_region ?_) | refine V_seq_draw tmix (by kernel_rfl) ?_ | refine V_seq (V_seq_draw tmix (by kernel_rfl) ?_) | refine V_region ?_ | refine V_draw tmix (by kernel_rfl) ?_))
  refine VR_make rfl rfl TE.h TI.h TZ.h rfl zt_Type (by omega) (by omega) (by rw [big_eq]; omega) (by omega) rfl (by repeat constructor) ?_
  rw [Int.toNat_natCast, fillU_zero]
  repeat (first | refine VO_d ?_ | refine VQ_d ?_  | (first | refine VO_nil ?_ | refine VQ_nil ?_) | (first | refine V_seq_region ?_ | refine V_seq (V_seq_region ?_) | refine V_seq_draw tmix (by kernel_rfl) ?_ | refine V_seq (V_seq_draw tmix (by kernel_rfl) ?_) | refine V_region ?_ | refine V_draw tmix (by kernel_rfl) ?_))
  refine V_block ?_
  refine V_loop (α := Nat)
    (fun k => ⟨[(0, .d (.sl 3 us)), (3, .sl 0 0), (4, .d (.i .i64 k))], [.own 35 3 0 (fillU us (.st [.i .i64 0, .s [], .sl 3 []]) k)], Tryd.f108.ntmps⟩)
    (fun k => k ≤ us.length)
    (fun k => us.length - k) 0 ⟨rfl, ⟨⟨rfl, rfl⟩, ⟨rfl, rfl⟩, ⟨rfl, rfl⟩, trivial⟩, ⟨[], rfl⟩, rfl⟩ (by simp) ?_
  intro k hk
  repeat (first | refine VO_d ?_ | refine VQ_d ?_  | (first | refine VO_nil ?_ | refine VQ_nil ?_) | (first | refine V_seq_region ?_ | refine V_seq (V_seq_region ?_) | refine V_seq_draw tmix (by kernel_rfl) ?_ | refine V_seq (V_seq_draw tmix (by kernel_rfl) ?_) | refine V_region ?_ | refine V_draw tmix (by kernel_rfl) ?_))
  (first | refine V_cond rfl (fun hc2 => ?_) (fun hc2 => ?_) | refine V_seq (V_cond rfl (fun hc2 => ?_) (fun hc2 => ?_)))
  · refine V_skip ?_
    simp only [decide_eq_true_eq] at hc2
    have hkl : k < us.length := by omega
    obtain ⟨a, hget⟩ : ∃ a, us[k]? = some a := ⟨_, List.getElem?_eq_getElem hkl⟩
    have hmem := List.mem_of_getElem? hget
    have hwk := W_le_of_mem hmem
    have hfl : (fillU us (.st [.i .i64 0, .s [], .sl 3 []]) k).length = us.length := fillU_length hk
    have hset := fillU_set (zu := .st [.i .i64 0, .s [], .sl 3 []]) hget
    have hcall := ih a hmem (by omega)
    have hwa := hz a hmem
    obtain ⟨a_0, a_1, a_2, rfl, hwa_0, hwa_1, hwa_2⟩ := inv_Type hwa
    refine V_seq (V_block ?_)
    repeat (first | refine VO_d ?_ | refine VQ_d ?_ | (first | refine VO_q (Q_index rfl rfl TE.h TI.h (by omega) hget) rfl ?_ | refine VQ_q (Q_index rfl rfl TE.h TI.h (by omega) hget) rfl ?_ | (refine VO_bare rfl rfl rfl rfl ?_; refine VO_q (Q_index rfl rfl TE.h TI.h (by omega) hget) rfl ?_) | refine VQ_run rfl rfl rfl rfl (Q_index rfl rfl TE.h TI.h (by omega) hget) rfl ?_) | (first | refine VO_q (Q_index_own rfl rfl .own rfl TE.h TI.h (by omega) (by omega)) rfl ?_ | refine VQ_q (Q_index_own rfl rfl .own rfl TE.h TI.h (by omega) (by omega)) rfl ?_ | (refine VO_bare rfl rfl rfl rfl ?_; refine VO_q (Q_index_own rfl rfl .own rfl TE.h TI.h (by omega) (by omega)) rfl ?_) | refine VQ_run rfl rfl rfl rfl (Q_index_own rfl rfl .own rfl TE.h TI.h (by omega) (by omega)) rfl ?_) | (first | refine VO_nil ?_ | refine VQ_nil ?_) | (first | refine V_seq_region ?_ | refine V_seq (V_seq_region ?_) | refine V_seq_draw tmix (by kernel_rfl) ?_ | refine V_seq (V_seq_draw tmix (by kernel_rfl) ?_) | refine V_region ?_ | refine V_draw tmix (by kernel_rfl) ?_))
    refine VO_callO rfl hcall (by (repeat (first | exact trivial | exact rfl | exact ⟨_, rfl⟩ | refine And.intro ?_ ?_)); first | done | fail) (by repeat constructor) (by repeat (first | exact rfl | constructor)) (by repeat constructor) rfl ?_
    repeat (first | refine VO_d ?_ | refine VQ_d ?_ | (first | refine VO_q (Q_index rfl rfl TE.h TI.h (by omega) hget) rfl ?_ | refine VQ_q (Q_index rfl rfl TE.h TI.h (by omega) hget) rfl ?_ | (refine VO_bare rfl rfl rfl rfl ?_; refine VO_q (Q_index rfl rfl TE.h TI.h (by omega) hget) rfl ?_) | refine VQ_run rfl rfl rfl rfl (Q_index rfl rfl TE.h TI.h (by omega) hget) rfl ?_) | (first | refine VO_q (Q_index_own rfl rfl .own rfl TE.h TI.h (by omega) (by omega)) rfl ?_ | refine VQ_q (Q_index_own rfl rfl .own rfl TE.h TI.h (by omega) (by omega)) rfl ?_ | (refine VO_bare rfl rfl rfl rfl ?_; refine VO_q (Q_index_own rfl rfl .own rfl TE.h TI.h (by omega) (by omega)) rfl ?_) | refine VQ_run rfl rfl rfl rfl (Q_index_own rfl rfl .own rfl TE.h TI.h (by omega) (by omega)) rfl ?_) | (first | refine VO_nil ?_ | refine VQ_nil ?_) | (first | refine V_seq_region ?_ | refine V_seq (V_seq_region ?_) | refine V_seq_draw tmix (by kernel_rfl) ?_ | refine V_seq (V_seq_draw tmix (by kernel_rfl) ?_) | refine V_region ?_ | refine V_draw tmix (by kernel_rfl) ?_))
    refine VR_store (u := .st [.i .i64 a_0, .s a_1, .sl 3 a_2]) rfl rfl (by repeat (first | exact rfl | constructor)) (by decide) TI.h rfl (by omega) (by repeat constructor) (by repeat constructor) ?_
    rw [Int.toNat_natCast, hset]
    repeat (first | refine VO_d ?_ | refine VQ_d ?_  | (first | refine VO_nil ?_ | refine VQ_nil ?_) | (first | refine V_seq_region ?_ | refine V_seq (V_seq_region ?_) | refine V_seq_draw tmix (by kernel_rfl) ?_ | refine V_seq (V_seq_draw tmix (by kernel_rfl) ?_) | refine V_region ?_ | refine V_draw tmix (by kernel_rfl) ?_))
    refine ⟨k + 1, by omega, by omega, ⟨rfl, ⟨⟨rfl, rfl⟩, ⟨rfl, rfl⟩, ⟨rfl, rfl⟩, trivial⟩, ⟨_, rfl⟩, rfl⟩⟩
  · refine V_exit ?_
    simp only [decide_eq_false_iff_not] at hc2
    have hkl : k = us.length := by omega
    subst hkl
    show V _ _ _ _ _
    repeat (first | refine VO_d ?_ | refine VQ_d ?_  | (first | refine VO_nil ?_ | refine VQ_nil ?_) | (first | refine V_seq_region ?_ | refine V_seq (V_seq_region ?_) | refine V_seq_draw tmix (by kernel_rfl) ?_ | refine V_seq (V_seq_draw tmix (by kernel_rfl) ?_) | refine V_region ?_ | refine V_draw tmix (by kernel_rfl) ?_))
    refine V_cast [.own 35 3 0 us] (by rw [fillU_all]) ?_
    refine V_ret ?_
    exact ⟨trivial, _, (by repeat (first | exact rfl | exact ResV_ag rfl rfl TI.h rfl rfl | exact ResV_one rfl rfl TI.h rfl | constructor)), by decide⟩

set_option maxHeartbeats 4000000 in
theorem toOType_step {f0 : Int} {f1 : List UInt8} {f2 : List U} (h1 : f1.length ≤ big) (h2 : PToO 108 [35] (.sl 3 f2)) : PToO 97 [35] (.st [.i .i64 f0, .s f1, .sl 3 f2]) := by
  intro hw
  have hW : W (.st [.i .i64 f0, .s f1, .sl 3 f2]) = 0 + (f1.length + (W (U.sl 3 f2) + 0)) := rfl
  have c2 := h2 (by omega)
  clear h2
  clear hW hw
  refine SpecO_intro Tryd.func97 rfl (by kernel_rfl) rfl (by simp) fun A _ => ?_
  repeat (first | refine VO_d ?_ | refine VQ_d ?_  | (first | refine VO_nil ?_ | refine VQ_nil ?_) | (first | refine V_seq_region ?_ | refine V_seq (V_seq_region ?_) | refine V_seq_draw tmix (by kernel_rfl) ?_ | refine V_seq (V_seq_draw tmix (by kernel_rfl) ?_) | refine V_region ?_ | refine V_draw tmix (by kernel_rfl) ?_))
  refine VO_callO rfl c2 (by (repeat (first | exact trivial | exact rfl | exact ⟨_, rfl⟩ | refine And.intro ?_ ?_)); first | done | fail) (by repeat constructor) (by repeat (first | exact rfl | constructor)) (by repeat constructor) rfl ?_
  repeat (first | refine VO_d ?_ | refine VQ_d ?_  | (first | refine VO_nil ?_ | refine VQ_nil ?_) | (first | refine V_seq_region ?_ | refine V_seq (V_seq_region ?_) | refine V_seq_draw tmix (by kernel_rfl) ?_ | refine V_seq (V_seq_draw tmix (by kernel_rfl) ?_) | refine V_region ?_ | refine V_draw tmix (by kernel_rfl) ?_))
  refine V_ret ?_
  exact ⟨trivial, _, (by repeat (first | exact rfl | exact ResV_ag rfl rfl TI.h rfl rfl | exact ResV_one rfl rfl TI.h rfl | constructor)), by decide⟩

theorem toOType_grp (u : U) : (wt (.st 1) u → PToO 97 [35] u) := by
  refine U.ind (M := fun u => (wt (.st 1) u → PToO 97 [35] u)) (fun u ih => ?_) u
  refine ?_
  · intro h
    obtain ⟨f0, f1, f2, rfl, p0, p1, p2⟩ := inv_Type h
    exact toOType_step p1 (toOTypeS_step p2.2 (fun a ha => (ih a (by have := nn_of_mem ha; simp only [U.nn, U.nns]; omega)) (p2.2 a ha)))
theorem toOType_all {u : U} (h : wt (.st 1) u) : PToO 97 [35] u := (toOType_grp u) h
theorem toOTypeS_all {us : List U} (h : us.length ≤ big ∧ ∀ x ∈ us, wt (.st 1) x) : PToO 108 [35] (.sl 3 us) := toOTypeS_step h.2 (fun a ha => toOType_all (h.2 a ha))
theorem zt_Binding : ZeroT (.st [.s [], .st [.i .i64 0, .s [], .sl 3 []]]) [.string ⟨#[]⟩, .int .i64 0, .string ⟨#[]⟩, .slice none 0 0] := zeroT (by repeat constructor) (by repeat constructor)
set_option maxHeartbeats 4000000 in
theorem toOBindingS_step {us : List U} (hz : ∀ a ∈ us, wt (.st 2) a) (ih : ∀ a ∈ us, PToO 70 [35] a) : PToO 33 [118] (.sl 4 us) := by
  intro hw
  have hW : W (.sl 4 us) = us.length + Ws us := rfl
  refine SpecO_intro Tryd.func33 rfl (by kernel_rfl) rfl (by simp) fun A _ => ?_
  repeat (first | refine VO_d ?_ | refine VQ_d ?_  | (first | refine VO_nil ?_ | refine VQ_nil ?_) | (first | refine V_seq_region ?_ | refine V_seq (V_seq_region ?_) | refine V_seq_draw tmix (by kernel_rfl) ?_ | refine V_seq (V_seq_draw tmix (by kernel_rfl) ?_) | refine V_region ?_ | refine V_draw tmix (by kernel_rfl) ?_))
  refine VR_make rfl rfl TE.h TI.h TZ.h rfl zt_Binding (by omega) (by omega) (by rw [big_eq]; omega) (by omega) rfl (by repeat constructor) ?_
  rw [Int.toNat_natCast, fillU_zero]
  repeat (first | refine VO_d ?_ | refine VQ_d ?_  | (first | refine VO_nil ?_ | refine VQ_nil ?_) | (first | refine V_seq_region ?_ | refine V_seq (V_seq_region ?_) | refine V_seq_draw tmix (by kernel_rfl) ?_ | refine V_seq (V_seq_draw tmix (by kernel_rfl) ?_) | refine V_region ?_ | refine V_draw tmix (by kernel_rfl) ?_))
  refine V_block ?_
  refine V_loop (α := Nat)
    (fun k => ⟨[(0, .d (.sl 4 us)), (3, .sl 0 0), (4, .d (.i .i64 k))], [.own 118 4 0 (fillU us (.st [.s [], .st [.i .i64 0, .s [], .sl 3 []]]) k)], Tryd.f33.ntmps⟩)
    (fun k => k ≤ us.length)
    (fun k => us.length - k) 0 ⟨rfl, ⟨⟨rfl, rfl⟩, ⟨rfl, rfl⟩, ⟨rfl, rfl⟩, trivial⟩, ⟨[], rfl⟩, rfl⟩ (by simp) ?_
  intro k hk
  repeat (first | refine VO_d ?_ | refine VQ_d ?_  | (first | refine VO_nil ?_ | refine VQ_nil ?_) | (first | refine V_seq_region ?_ | refine V_seq (V_seq_region ?_) | refine V_seq_draw tmix (by kernel_rfl) ?_ | refine V_seq (V_seq_draw tmix (by kernel_rfl) ?_) | refine V_region ?_ | refine V_draw tmix (by kernel_rfl) ?_))
  (first | refine V_cond rfl (fun hc2 => ?_) (fun hc2 => ?_) | refine V_seq (V_cond rfl (fun hc2 => ?_) (fun hc2 => ?_)))
  · refine V_skip ?_
    simp only [decide_eq_true_eq] at hc2
    have hkl : k < us.length := by omega
    obtain ⟨a, hget⟩ : ∃ a, us[k]? = some a := ⟨_, List.getElem?_eq_getElem hkl⟩
    have hmem := List.mem_of_getElem? hget
    have hwk := W_le_of_mem hmem
    have hfl : (fillU us (.st [.s [], .st [.i .i64 0, .s [], .sl 3 []]]) k).length = us.length := fillU_length hk
    have hset := fillU_set (zu := .st [.s [], .st [.i .i64 0, .s [], .sl 3 []]]) hget
    have hcall := ih a hmem (by omega)
    have hwa := hz a hmem
    obtain ⟨a_0, a_1, rfl, hwa_0, hwa_1⟩ := inv_Binding hwa
    obtain ⟨a_1_0, a_1_1, a_1_2, rfl, hwa_1_0, hwa_1_1, hwa_1_2⟩ := inv_Type hwa_1
    refine V_seq (V_block ?_)
    repeat (first | refine VO_d ?_ | refine VQ_d ?_ | (first | refine VO_q (Q_index rfl rfl TE.h TI.h (by omega) hget) rfl ?_ | refine VQ_q (Q_index rfl rfl TE.h TI.h (by omega) hget) rfl ?_ | (refine VO_bare rfl rfl rfl rfl ?_; refine VO_q (Q_index rfl rfl TE.h TI.h (by omega) hget) rfl ?_) | refine VQ_run rfl rfl rfl rfl (Q_index rfl rfl TE.h TI.h (by omega) hget) rfl ?_) | (first | refine VO_q (Q_index_own rfl rfl .own rfl TE.h TI.h (by omega) (by omega)) rfl ?_ | refine VQ_q (Q_index_own rfl rfl .own rfl TE.h TI.h (by omega) (by omega)) rfl ?_ | (refine VO_bare rfl rfl rfl rfl ?_; refine VO_q (Q_index_own rfl rfl .own rfl TE.h TI.h (by omega) (by omega)) rfl ?_) | refine VQ_run rfl rfl rfl rfl (Q_index_own rfl rfl .own rfl TE.h TI.h (by omega) (by omega)) rfl ?_) | (first | refine VO_nil ?_ | refine VQ_nil ?_) | (first | refine V_seq_region ?_ | refine V_seq (V_seq_region ?_) | refine V_seq_draw tmix (by kernel_rfl) ?_ | refine V_seq (V_seq_draw tmix (by kernel_rfl) ?_) | refine V_region ?_ | refine V_draw tmix (by kernel_rfl) ?_))
    refine VO_callO rfl hcall (by (repeat (first | exact trivial | exact rfl | exact ⟨_, rfl⟩ | refine And.intro ?_ ?_)); first | done | fail) (by repeat constructor) (by repeat (first | exact rfl | constructor)) (by repeat constructor) rfl ?_
    repeat (first | refine VO_d ?_ | refine VQ_d ?_ | (first | refine VO_q (Q_index rfl rfl TE.h TI.h (by omega) hget) rfl ?_ | refine VQ_q (Q_index rfl rfl TE.h TI.h (by omega) hget) rfl ?_ | (refine VO_bare rfl rfl rfl rfl ?_; refine VO_q (Q_index rfl rfl TE.h TI.h (by omega) hget) rfl ?_) | refine VQ_run rfl rfl rfl rfl (Q_index rfl rfl TE.h TI.h (by omega) hget) rfl ?_) | (first | refine VO_q (Q_index_own rfl rfl .own rfl TE.h TI.h (by omega) (by omega)) rfl ?_ | refine VQ_q (Q_index_own rfl rfl .own rfl TE.h TI.h (by omega) (by omega)) rfl ?_ | (refine VO_bare rfl rfl rfl rfl ?_; refine VO_q (Q_index_own rfl rfl .own rfl TE.h TI.h (by omega) (by omega)) rfl ?_) | refine VQ_run rfl rfl rfl rfl (Q_index_own rfl rfl .own rfl TE.h TI.h (by omega) (by omega)) rfl ?_) | (first | refine VO_nil ?_ | refine VQ_nil ?_) | (first | refine V_seq_region ?_ | refine V_seq (V_seq_region ?_) | refine V_seq_draw tmix (by kernel_rfl) ?_ | refine V_seq (V_seq_draw tmix (by kernel_rfl) ?_) | refine V_region ?_ | refine V_draw tmix (by kernel_rfl) ?_))
    refine VR_store (u := .st [.s a_0, .st [.i .i64 a_1_0, .s a_1_1, .sl 3 a_1_2]]) rfl rfl (by repeat (first | exact rfl | constructor)) (by decide) TI.h rfl (by omega) (by repeat constructor) (by repeat constructor) ?_
    rw [Int.toNat_natCast, hset]
    repeat (first | refine VO_d ?_ | refine VQ_d ?_  | (first | refine VO_nil ?_ | refine VQ_nil ?_) | (first | refine V_seq_region ?_ | refine V_seq (V_seq_region ?_) | refine V_seq_draw tmix (by kernel_rfl) ?_ | refine V_seq (V_seq_draw tmix (by kernel_rfl) ?_) | refine V_region ?_ | refine V_draw tmix (by kernel_rfl) ?_))
    refine ⟨k + 1, by omega, by omega, ⟨rfl, ⟨⟨rfl, rfl⟩, ⟨rfl, rfl⟩, ⟨rfl, rfl⟩, trivial⟩, ⟨_, rfl⟩, rfl⟩⟩
  · refine V_exit ?_
    simp only [decide_eq_false_iff_not] at hc2
    have hkl : k = us.length := by omega
    subst hkl
    show V _ _ _ _ _
    repeat (first | refine VO_d ?_ | refine VQ_d ?_  | (first | refine VO_nil ?_ | refine VQ_nil ?_) | (first | refine V_seq_region ?_ | refine V_seq (V_seq_region ?_) | refine V_seq_draw tmix (by kernel_rfl) ?_ | refine V_seq (V_seq_draw tmix (by kernel_rfl) ?_) | refine V_region ?_ | refine V_draw tmix (by kernel_rfl) ?_))
    refine V_cast [.own 118 4 0 us] (by rw [fillU_all]) ?_
    refine V_ret ?_
    exact ⟨trivial, _, (by repeat (first | exact rfl | exact ResV_ag rfl rfl TI.h rfl rfl | exact ResV_one rfl rfl TI.h rfl | constructor)), by decide⟩

set_option maxHeartbeats 4000000 in
theorem toOBinding_step {f0 : List UInt8} {f1 : U} (h0 : f0.length ≤ big) (g1 : wt (.st 1) f1) (h1 : PToO 97 [35] f1) : PToO 70 [35] (.st [.s f0, f1]) := by
  intro hw
  have hW : W (.st [.s f0, f1]) = f0.length + (W f1 + 0) := rfl
  have c1 := h1 (by omega)
  clear h1
  clear hW hw
  obtain ⟨f1_0, f1_1, f1_2, rfl, g1_0, g1_1, g1_2⟩ := inv_Type g1
  refine SpecO_intro Tryd.func70 rfl (by kernel_rfl) rfl (by simp) fun A _ => ?_
  repeat (first | refine VO_d ?_ | refine VQ_d ?_  | (first | refine VO_nil ?_ | refine VQ_nil ?_) | (first | refine V_seq_region ?_ | refine V_seq (V_seq_region ?_) | refine V_seq_draw tmix (by kernel_rfl) ?_ | refine V_seq (V_seq_draw tmix (by kernel_rfl) ?_) | refine V_region ?_ | refine V_draw tmix (by kernel_rfl) ?_))
  refine VO_callO rfl c1 (by (repeat (first | exact trivial | exact rfl | exact ⟨_, rfl⟩ | refine And.intro ?_ ?_)); first | done | fail) (by repeat constructor) (by repeat (first | exact rfl | constructor)) (by repeat constructor) rfl ?_
  repeat (first | refine VO_d ?_ | refine VQ_d ?_  | (first | refine VO_nil ?_ | refine VQ_nil ?_) | (first | refine V_seq_region ?_ | refine V_seq (V_seq_region ?_) | refine V_seq_draw tmix (by kernel_rfl) ?_ | refine V_seq (V_seq_draw tmix (by kernel_rfl) ?_) | refine V_region ?_ | refine V_draw tmix (by kernel_rfl) ?_))
  refine V_ret ?_
  exact ⟨trivial, _, (by repeat (first | exact rfl | exact ResV_ag rfl rfl TI.h rfl rfl | exact ResV_one rfl rfl TI.h rfl | constructor)), by decide⟩

theorem toOBinding_grp (u : U) : (wt (.st 2) u → PToO 70 [35] u) := by
  refine U.ind (M := fun u => (wt (.st 2) u → PToO 70 [35] u)) (fun u ih => ?_) u
  refine ?_
  · intro h
    obtain ⟨f0, f1, rfl, p0, p1⟩ := inv_Binding h
    exact toOBinding_step p0 p1 (toOType_all p1)
theorem toOBinding_all {u : U} (h : wt (.st 2) u) : PToO 70 [35] u := (toOBinding_grp u) h
theorem toOBindingS_all {us : List U} (h : us.length ≤ big ∧ ∀ x ∈ us, wt (.st 2) x) : PToO 33 [118] (.sl 4 us) := toOBindingS_step h.2 (fun a ha => toOBinding_all (h.2 a ha))
set_option maxHeartbeats 4000000 in
theorem toOBound_step {f0 : List UInt8} {f1 : U} (h0 : f0.length ≤ big) (g1 : wt (.st 1) f1) (h1 : PToO 97 [35] f1) : PToO 98 [35] (.st [.s f0, f1]) := by
  intro hw
  have hW : W (.st [.s f0, f1]) = f0.length + (W f1 + 0) := rfl
  have c1 := h1 (by omega)
  clear h1
  clear hW hw
  obtain ⟨f1_0, f1_1, f1_2, rfl, g1_0, g1_1, g1_2⟩ := inv_Type g1
  refine SpecO_intro Tryd.func98 rfl (by kernel_rfl) rfl (by simp) fun A _ => ?_
  repeat (first | refine VO_d ?_ | refine VQ_d ?_  | (first | refine VO_nil ?_ | refine VQ_nil ?_) | (first | refine V_seq_region ?_ | refine V_seq (V_seq_region ?_) | refine V_seq_draw tmix (by kernel_rfl) ?_ | refine V_seq (V_seq_draw tmix (by kernel_rfl) ?_) | refine V_region ?_ | refine V_draw tmix (by kernel_rfl) ?_))
  refine VO_callO rfl c1 (by (repeat (first | exact trivial | exact rfl | exact ⟨_, rfl⟩ | refine And.intro ?_ ?_)); first | done | fail) (by repeat constructor) (by repeat (first | exact rfl | constructor)) (by repeat constructor) rfl ?_
  repeat (first | refine VO_d ?_ | refine VQ_d ?_  | (first | refine VO_nil ?_ | refine VQ_nil ?_) | (first | refine V_seq_region ?_ | refine V_seq (V_seq_region ?_) | refine V_seq_draw tmix (by kernel_rfl) ?_ | refine V_seq (V_seq_draw tmix (by kernel_rfl) ?_) | refine V_region ?_ | refine V_draw tmix (by kernel_rfl) ?_))
  refine V_ret ?_
  exact ⟨trivial, _, (by repeat (first | exact rfl | exact ResV_ag rfl rfl TI.h rfl rfl | exact ResV_one rfl rfl TI.h rfl | constructor)), by decide⟩

theorem toOBound_grp (u : U) : (wt (.st 9) u → PToO 98 [35] u) := by
  refine U.ind (M := fun u => (wt (.st 9) u → PToO 98 [35] u)) (fun u ih => ?_) u
  refine ?_
  · intro h
    obtain ⟨f0, f1, rfl, p0, p1⟩ := inv_Bound h
    exact toOBound_step p0 p1 (toOType_all p1)
theorem toOBound_all {u : U} (h : wt (.st 9) u) : PToO 98 [35] u := (toOBound_grp u) h
theorem zt_Equation : ZeroT (.st [.st [.i .i64 0, .s [], .sl 3 []], .st [.i .i64 0, .s [], .sl 3 []], .i .i64 0]) [.int .i64 0, .string ⟨#[]⟩, .slice none 0 0, .int .i64 0, .string ⟨#[]⟩, .slice none 0 0, .int .i64 0] := zeroT (by repeat constructor) (by repeat constructor)
set_option maxHeartbeats 4000000 in
theorem toOEquationS_step {us : List U} (hz : ∀ a ∈ us, wt (.st 22) a) (ih : ∀ a ∈ us, PToO 71 [35, 35] a) : PToO 34 [121] (.sl 7 us) := by
  intro hw
  have hW : W (.sl 7 us) = us.length + Ws us := rfl
  refine SpecO_intro Tryd.func34 rfl (by kernel_rfl) rfl (by simp) fun A _ => ?_
  repeat (first | refine VO_d ?_ | refine VQ_d ?_  | (first | refine VO_nil ?_ | refine VQ_nil ?_) | (first | refine V_seq_region ?_ | refine V_seq (V_seq_region ?_) | refine V_seq_draw tmix (by kernel_rfl) ?_ | refine V_seq (V_seq_draw tmix (by kernel_rfl) ?_) | refine V_region ?_ | refine V_draw tmix (by kernel_rfl) ?_))
  refine VR_make rfl rfl TE.h TI.h TZ.h rfl zt_Equation (by omega) (by omega) (by rw [big_eq]; omega) (by omega) rfl (by repeat constructor) ?_
  rw [Int.toNat_natCast, fillU_zero]
  repeat (first | refine VO_d ?_ | refine VQ_d ?_  | (first | refine VO_nil ?_ | refine VQ_nil ?_) | (first | refine V_seq_region ?_ | refine V_seq (V_seq_region ?_) | refine V_seq_draw tmix (by kernel_rfl) ?_ | refine V_seq (V_seq_draw tmix (by kernel_rfl) ?_) | refine V_region ?_ | refine V_draw tmix (by kernel_rfl) ?_))
  refine V_block ?_
  refine V_loop (α := Nat)
    (fun k => ⟨[(0, .d (.sl 7 us)), (3, .sl 0 0), (4, .d (.i .i64 k))], [.own 121 7 0 (fillU us (.st [.st [.i .i64 0, .s [], .sl 3 []], .st [.i .i64 0, .s [], .sl 3 []], .i .i64 0]) k)], Tryd.f34.ntmps⟩)
    (fun k => k ≤ us.length)
    (fun k => us.length - k) 0 ⟨rfl, ⟨⟨rfl, rfl⟩, ⟨rfl, rfl⟩, ⟨rfl, rfl⟩, trivial⟩, ⟨[], rfl⟩, rfl⟩ (by simp) ?_
  intro k hk
  repeat (first | refine VO_d ?_ | refine VQ_d ?_  | (first | refine VO_nil ?_ | refine VQ_nil ?_) | (first | refine V_seq_region ?_ | refine V_seq (V_seq_region ?_) | refine V_seq_draw tmix (by kernel_rfl) ?_ | refine V_seq (V_seq_draw tmix (by kernel_rfl) ?_) | refine V_region ?_ | refine V_draw tmix (by kernel_rfl) ?_))
  (first | refine V_cond rfl (fun hc2 => ?_) (fun hc2 => ?_) | refine V_seq (V_cond rfl (fun hc2 => ?_) (fun hc2 => ?_)))
  · refine V_skip ?_
    simp only [decide_eq_true_eq] at hc2
    have hkl : k < us.length := by omega
    obtain ⟨a, hget⟩ : ∃ a, us[k]? = some a := ⟨_, List.getElem?_eq_getElem hkl⟩
    have hmem := List.mem_of_getElem? hget
    have hwk := W_le_of_mem hmem
    have hfl : (fillU us (.st [.st [.i .i64 0, .s [], .sl 3 []], .st [.i .i64 0, .s [], .sl 3 []], .i .i64 0]) k).length = us.length := fillU_length hk
    have hset := fillU_set (zu := .st [.st [.i .i64 0, .s [], .sl 3 []], .st [.i .i64 0, .s [], .sl 3 []], .i .i64 0]) hget
    have hcall := ih a hmem (by omega)
    have hwa := hz a hmem
    obtain ⟨a_0, a_1, a_2, rfl, hwa_0, hwa_1, hwa_2⟩ := inv_Equation hwa
    obtain ⟨a_0_0, a_0_1, a_0_2, rfl, hwa_0_0, hwa_0_1, hwa_0_2⟩ := inv_Type hwa_0
    obtain ⟨a_1_0, a_1_1, a_1_2, rfl, hwa_1_0, hwa_1_1, hwa_1_2⟩ := inv_Type hwa_1
    refine V_seq (V_block ?_)
    repeat (first | refine VO_d ?_ | refine VQ_d ?_ | (first | refine VO_q (Q_index rfl rfl TE.h TI.h (by omega) hget) rfl ?_ | refine VQ_q (Q_index rfl rfl TE.h TI.h (by omega) hget) rfl ?_ | (refine VO_bare rfl rfl rfl rfl ?_; refine VO_q (Q_index rfl rfl TE.h TI.h (by omega) hget) rfl ?_) | refine VQ_run rfl rfl rfl rfl (Q_index rfl rfl TE.h TI.h (by omega) hget) rfl ?_) | (first | refine VO_q (Q_index_own rfl rfl .own rfl TE.h TI.h (by omega) (by omega)) rfl ?_ | refine VQ_q (Q_index_own rfl rfl .own rfl TE.h TI.h (by omega) (by omega)) rfl ?_ | (refine VO_bare rfl rfl rfl rfl ?_; refine VO_q (Q_index_own rfl rfl .own rfl TE.h TI.h (by omega) (by omega)) rfl ?_) | refine VQ_run rfl rfl rfl rfl (Q_index_own rfl rfl .own rfl TE.h TI.h (by omega) (by omega)) rfl ?_) | (first | refine VO_nil ?_ | refine VQ_nil ?_) | (first | refine V_seq_region ?_ | refine V_seq (V_seq_region ?_) | refine V_seq_draw tmix (by kernel_rfl) ?_ | refine V_seq (V_seq_draw tmix (by kernel_rfl) ?_) | refine V_region ?_ | refine V_draw tmix (by kernel_rfl) ?_))
    refine VO_callO rfl hcall (by (repeat (first | exact trivial | exact rfl | exact ⟨_, rfl⟩ | refine And.intro ?_ ?_)); first | done | fail) (by repeat constructor) (by repeat (first | exact rfl | constructor)) (by repeat constructor) rfl ?_
    repeat (first | refine VO_d ?_ | refine VQ_d ?_ | (first | refine VO_q (Q_index rfl rfl TE.h TI.h (by omega) hget) rfl ?_ | refine VQ_q (Q_index rfl rfl TE.h TI.h (by omega) hget) rfl ?_ | (refine VO_bare rfl rfl rfl rfl ?_; refine VO_q (Q_index rfl rfl TE.h TI.h (by omega) hget) rfl ?_) | refine VQ_run rfl rfl rfl rfl (Q_index rfl rfl TE.h TI.h (by omega) hget) rfl ?_) | (first | refine VO_q (Q_index_own rfl rfl .own rfl TE.h TI.h (by omega) (by omega)) rfl ?_ | refine VQ_q (Q_index_own rfl rfl .own rfl TE.h TI.h (by omega) (by omega)) rfl ?_ | (refine VO_bare rfl rfl rfl rfl ?_; refine VO_q (Q_index_own rfl rfl .own rfl TE.h TI.h (by omega) (by omega)) rfl ?_) | refine VQ_run rfl rfl rfl rfl (Q_index_own rfl rfl .own rfl TE.h TI.h (by omega) (by omega)) rfl ?_) | (first | refine VO_nil ?_ | refine VQ_nil ?_) | (first | refine V_seq_region ?_ | refine V_seq (V_seq_region ?_) | refine V_seq_draw tmix (by kernel_rfl) ?_ | refine V_seq (V_seq_draw tmix (by kernel_rfl) ?_) | refine V_region ?_ | refine V_draw tmix (by kernel_rfl) ?_))
    refine VR_store (u := .st [.st [.i .i64 a_0_0, .s a_0_1, .sl 3 a_0_2], .st [.i .i64 a_1_0, .s a_1_1, .sl 3 a_1_2], .i .i64 a_2]) rfl rfl (by repeat (first | exact rfl | constructor)) (by decide) TI.h rfl (by omega) (by repeat constructor) (by repeat constructor) ?_
    rw [Int.toNat_natCast, hset]
    repeat (first | refine VO_d ?_ | refine VQ_d ?_  | (first | refine VO_nil ?_ | refine VQ_nil ?_) | (first | refine V_seq_region ?_ | refine V_seq (V_seq_region ?_) | refine V_seq_draw tmix (by kernel_rfl) ?_ | refine V_seq (V_seq_draw tmix (by kernel_rfl) ?_) | refine V_region ?_ | refine V_draw tmix (by kernel_rfl) ?_))
    refine ⟨k + 1, by omega, by omega, ⟨rfl, ⟨⟨rfl, rfl⟩, ⟨rfl, rfl⟩, ⟨rfl, rfl⟩, trivial⟩, ⟨_, rfl⟩, rfl⟩⟩
  · refine V_exit ?_
    simp only [decide_eq_false_iff_not] at hc2
    have hkl : k = us.length := by omega
    subst hkl
    show V _ _ _ _ _
    repeat (first | refine VO_d ?_ | refine VQ_d ?_  | (first | refine VO_nil ?_ | refine VQ_nil ?_) | (first | refine V_seq_region ?_ | refine V_seq (V_seq_region ?_) | refine V_seq_draw tmix (by kernel_rfl) ?_ | refine V_seq (V_seq_draw tmix (by kernel_rfl) ?_) | refine V_region ?_ | refine V_draw tmix (by kernel_rfl) ?_))
    refine V_cast [.own 121 7 0 us] (by rw [fillU_all]) ?_
    refine V_ret ?_
    exact ⟨trivial, _, (by repeat (first | exact rfl | exact ResV_ag rfl rfl TI.h rfl rfl | exact ResV_one rfl rfl TI.h rfl | constructor)), by decide⟩

set_option maxHeartbeats 4000000 in
theorem toOEquation_step {f0 : U} {f1 : U} {f2 : Int} (g0 : wt (.st 1) f0) (h0 : PToO 97 [35] f0) (g1 : wt (.st 1) f1) (h1 : PToO 97 [35] f1) : PToO 71 [35, 35] (.st [f0, f1, .i .i64 f2]) := by
  intro hw
  have hW : W (.st [f0, f1, .i .i64 f2]) = W f0 + (W f1 + (0 + 0)) := rfl
  have c0 := h0 (by omega)
  clear h0
  have c1 := h1 (by omega)
  clear h1
  clear hW hw
  obtain ⟨f0_0, f0_1, f0_2, rfl, g0_0, g0_1, g0_2⟩ := inv_Type g0
  obtain ⟨f1_0, f1_1, f1_2, rfl, g1_0, g1_1, g1_2⟩ := inv_Type g1
  refine SpecO_intro Tryd.func71 rfl (by kernel_rfl) rfl (by simp) fun A _ => ?_
  repeat (first | refine VO_d ?_ | refine VQ_d ?_  | (first | refine VO_nil ?_ | refine VQ_nil ?_) | (first | refine V_seq_region ?_ | refine V_seq (V_seq_region ?_) | refine V_seq_draw tmix (by kernel_rfl) ?_ | refine V_seq (V_seq_draw tmix (by kernel_rfl) ?_) | refine V_region ?_ | refine V_draw tmix (by kernel_rfl) ?_))
  refine VO_callO rfl c0 (by (repeat (first | exact trivial | exact rfl | exact ⟨_, rfl⟩ | refine And.intro ?_ ?_)); first | done | fail) (by repeat constructor) (by repeat (first | exact rfl | constructor)) (by repeat constructor) rfl ?_
  repeat (first | refine VO_d ?_ | refine VQ_d ?_  | (first | refine VO_nil ?_ | refine VQ_nil ?_) | (first | refine V_seq_region ?_ | refine V_seq (V_seq_region ?_) | refine V_seq_draw tmix (by kernel_rfl) ?_ | refine V_seq (V_seq_draw tmix (by kernel_rfl) ?_) | refine V_region ?_ | refine V_draw tmix (by kernel_rfl) ?_))
  refine VO_callO rfl c1 (by (repeat (first | exact trivial | exact rfl | exact ⟨_, rfl⟩ | refine And.intro ?_ ?_)); first | done | fail) (by repeat constructor) (by repeat (first | exact rfl | constructor)) (by repeat constructor) rfl ?_
  repeat (first | refine VO_d ?_ | refine VQ_d ?_  | (first | refine VO_nil ?_ | refine VQ_nil ?_) | (first | refine V_seq_region ?_ | refine V_seq (V_seq_region ?_) | refine V_seq_draw tmix (by kernel_rfl) ?_ | refine V_seq (V_seq_draw tmix (by kernel_rfl) ?_) | refine V_region ?_ | refine V_draw tmix (by kernel_rfl) ?_))
  refine V_ret ?_
  exact ⟨trivial, _, (by repeat (first | exact rfl | exact ResV_ag rfl rfl TI.h rfl rfl | exact ResV_one rfl rfl TI.h rfl | constructor)), by decide⟩

theorem toOEquation_grp (u : U) : (wt (.st 22) u → PToO 71 [35, 35] u) := by
  refine U.ind (M := fun u => (wt (.st 22) u → PToO 71 [35, 35] u)) (fun u ih => ?_) u
  refine ?_
  · intro h
    obtain ⟨f0, f1, f2, rfl, p0, p1, p2⟩ := inv_Equation h
    exact toOEquation_step p0 (toOType_all p0) p1 (toOType_all p1)
theorem toOEquation_all {u : U} (h : wt (.st 22) u) : PToO 71 [35, 35] u := (toOEquation_grp u) h
theorem toOEquationS_all {us : List U} (h : us.length ≤ big ∧ ∀ x ∈ us, wt (.st 22) x) : PToO 34 [121] (.sl 7 us) := toOEquationS_step h.2 (fun a ha => toOEquation_all (h.2 a ha))
theorem zt_Obligation : ZeroT (.st [.st [.s [], .st [.i .i64 0, .s [], .sl 3 []]], .i .i64 0]) [.string ⟨#[]⟩, .int .i64 0, .string ⟨#[]⟩, .slice none 0 0, .int .i64 0] := zeroT (by repeat constructor) (by repeat constructor)
set_option maxHeartbeats 4000000 in
theorem toOObligationS_step {us : List U} (hz : ∀ a ∈ us, wt (.st 23) a) (ih : ∀ a ∈ us, PToO 72 [35] a) : PToO 35 [125] (.sl 5 us) := by
  intro hw
  have hW : W (.sl 5 us) = us.length + Ws us := rfl
  refine SpecO_intro Tryd.func35 rfl (by kernel_rfl) rfl (by simp) fun A _ => ?_
  repeat (first | refine VO_d ?_ | refine VQ_d ?_  | (first | refine VO_nil ?_ | refine VQ_nil ?_) | (first | refine V_seq_region ?_ | refine V_seq (V_seq_region ?_) | refine V_seq_draw tmix (by kernel_rfl) ?_ | refine V_seq (V_seq_draw tmix (by kernel_rfl) ?_) | refine V_region ?_ | refine V_draw tmix (by kernel_rfl) ?_))
  refine VR_make rfl rfl TE.h TI.h TZ.h rfl zt_Obligation (by omega) (by omega) (by rw [big_eq]; omega) (by omega) rfl (by repeat constructor) ?_
  rw [Int.toNat_natCast, fillU_zero]
  repeat (first | refine VO_d ?_ | refine VQ_d ?_  | (first | refine VO_nil ?_ | refine VQ_nil ?_) | (first | refine V_seq_region ?_ | refine V_seq (V_seq_region ?_) | refine V_seq_draw tmix (by kernel_rfl) ?_ | refine V_seq (V_seq_draw tmix (by kernel_rfl) ?_) | refine V_region ?_ | refine V_draw tmix (by kernel_rfl) ?_))
  refine V_block ?_
  refine V_loop (α := Nat)
    (fun k => ⟨[(0, .d (.sl 5 us)), (3, .sl 0 0), (4, .d (.i .i64 k))], [.own 125 5 0 (fillU us (.st [.st [.s [], .st [.i .i64 0, .s [], .sl 3 []]], .i .i64 0]) k)], Tryd.f35.ntmps⟩)
    (fun k => k ≤ us.length)
    (fun k => us.length - k) 0 ⟨rfl, ⟨⟨rfl, rfl⟩, ⟨rfl, rfl⟩, ⟨rfl, rfl⟩, trivial⟩, ⟨[], rfl⟩, rfl⟩ (by simp) ?_
  intro k hk
  repeat (first | refine VO_d ?_ | refine VQ_d ?_  | (first | refine VO_nil ?_ | refine VQ_nil ?_) | (first | refine V_seq_region ?_ | refine V_seq (V_seq_region ?_) | refine V_seq_draw tmix (by kernel_rfl) ?_ | refine V_seq (V_seq_draw tmix (by kernel_rfl) ?_) | refine V_region ?_ | refine V_draw tmix (by kernel_rfl) ?_))
  (first | refine V_cond rfl (fun hc2 => ?_) (fun hc2 => ?_) | refine V_seq (V_cond rfl (fun hc2 => ?_) (fun hc2 => ?_)))
  · refine V_skip ?_
    simp only [decide_eq_true_eq] at hc2
    have hkl : k < us.length := by omega
    obtain ⟨a, hget⟩ : ∃ a, us[k]? = some a := ⟨_, List.getElem?_eq_getElem hkl⟩
    have hmem := List.mem_of_getElem? hget
    have hwk := W_le_of_mem hmem
    have hfl : (fillU us (.st [.st [.s [], .st [.i .i64 0, .s [], .sl 3 []]], .i .i64 0]) k).length = us.length := fillU_length hk
    have hset := fillU_set (zu := .st [.st [.s [], .st [.i .i64 0, .s [], .sl 3 []]], .i .i64 0]) hget
    have hcall := ih a hmem (by omega)
    have hwa := hz a hmem
    obtain ⟨a_0, a_1, rfl, hwa_0, hwa_1⟩ := inv_Obligation hwa
    obtain ⟨a_0_0, a_0_1, rfl, hwa_0_0, hwa_0_1⟩ := inv_Bound hwa_0
    obtain ⟨a_0_1_0, a_0_1_1, a_0_1_2, rfl, hwa_0_1_0, hwa_0_1_1, hwa_0_1_2⟩ := inv_Type hwa_0_1
    refine V_seq (V_block ?_)
    repeat (first | refine VO_d ?_ | refine VQ_d ?_ | (first | refine VO_q (Q_index rfl rfl TE.h TI.h (by omega) hget) rfl ?_ | refine VQ_q (Q_index rfl rfl TE.h TI.h (by omega) hget) rfl ?_ | (refine VO_bare rfl rfl rfl rfl ?_; refine VO_q (Q_index rfl rfl TE.h TI.h (by omega) hget) rfl ?_) | refine VQ_run rfl rfl rfl rfl (Q_index rfl rfl TE.h TI.h (by omega) hget) rfl ?_) | (first | refine VO_q (Q_index_own rfl rfl .own rfl TE.h TI.h (by omega) (by omega)) rfl ?_ | refine VQ_q (Q_index_own rfl rfl .own rfl TE.h TI.h (by omega) (by omega)) rfl ?_ | (refine VO_bare rfl rfl rfl rfl ?_; refine VO_q (Q_index_own rfl rfl .own rfl TE.h TI.h (by omega) (by omega)) rfl ?_) | refine VQ_run rfl rfl rfl rfl (Q_index_own rfl rfl .own rfl TE.h TI.h (by omega) (by omega)) rfl ?_) | (first | refine VO_nil ?_ | refine VQ_nil ?_) | (first | refine V_seq_region ?_ | refine V_seq (V_seq_region ?_) | refine V_seq_draw tmix (by kernel_rfl) ?_ | refine V_seq (V_seq_draw tmix (by kernel_rfl) ?_) | refine V_region ?_ | refine V_draw tmix (by kernel_rfl) ?_))
    refine VO_callO rfl hcall (by (repeat (first | exact trivial | exact rfl | exact ⟨_, rfl⟩ | refine And.intro ?_ ?_)); first | done | fail) (by repeat constructor) (by repeat (first | exact rfl | constructor)) (by repeat constructor) rfl ?_
    repeat (first | refine VO_d ?_ | refine VQ_d ?_ | (first | refine VO_q (Q_index rfl rfl TE.h TI.h (by omega) hget) rfl ?_ | refine VQ_q (Q_index rfl rfl TE.h TI.h (by omega) hget) rfl ?_ | (refine VO_bare rfl rfl rfl rfl ?_; refine VO_q (Q_index rfl rfl TE.h TI.h (by omega) hget) rfl ?_) | refine VQ_run rfl rfl rfl rfl (Q_index rfl rfl TE.h TI.h (by omega) hget) rfl ?_) | (first | refine VO_q (Q_index_own rfl rfl .own rfl TE.h TI.h (by omega) (by omega)) rfl ?_ | refine VQ_q (Q_index_own rfl rfl .own rfl TE.h TI.h (by omega) (by omega)) rfl ?_ | (refine VO_bare rfl rfl rfl rfl ?_; refine VO_q (Q_index_own rfl rfl .own rfl TE.h TI.h (by omega) (by omega)) rfl ?_) | refine VQ_run rfl rfl rfl rfl (Q_index_own rfl rfl .own rfl TE.h TI.h (by omega) (by omega)) rfl ?_) | (first | refine VO_nil ?_ | refine VQ_nil ?_) | (first | refine V_seq_region ?_ | refine V_seq (V_seq_region ?_) | refine V_seq_draw tmix (by kernel_rfl) ?_ | refine V_seq (V_seq_draw tmix (by kernel_rfl) ?_) | refine V_region ?_ | refine V_draw tmix (by kernel_rfl) ?_))
    refine VR_store (u := .st [.st [.s a_0_0, .st [.i .i64 a_0_1_0, .s a_0_1_1, .sl 3 a_0_1_2]], .i .i64 a_1]) rfl rfl (by repeat (first | exact rfl | constructor)) (by decide) TI.h rfl (by omega) (by repeat constructor) (by repeat constructor) ?_
    rw [Int.toNat_natCast, hset]
    repeat (first | refine VO_d ?_ | refine VQ_d ?_  | (first | refine VO_nil ?_ | refine VQ_nil ?_) | (first | refine V_seq_region ?_ | refine V_seq (V_seq_region ?_) | refine V_seq_draw tmix (by kernel_rfl) ?_ | refine V_seq (V_seq_draw tmix (by kernel_rfl) ?_) | refine V_region ?_ | refine V_draw tmix (by kernel_rfl) ?_))
    refine ⟨k + 1, by omega, by omega, ⟨rfl, ⟨⟨rfl, rfl⟩, ⟨rfl, rfl⟩, ⟨rfl, rfl⟩, trivial⟩, ⟨_, rfl⟩, rfl⟩⟩
  · refine V_exit ?_
    simp only [decide_eq_false_iff_not] at hc2
    have hkl : k = us.length := by omega
    subst hkl
    show V _ _ _ _ _
    repeat (first | refine VO_d ?_ | refine VQ_d ?_  | (first | refine VO_nil ?_ | refine VQ_nil ?_) | (first | refine V_seq_region ?_ | refine V_seq (V_seq_region ?_) | refine V_seq_draw tmix (by kernel_rfl) ?_ | refine V_seq (V_seq_draw tmix (by kernel_rfl) ?_) | refine V_region ?_ | refine V_draw tmix (by kernel_rfl) ?_))
    refine V_cast [.own 125 5 0 us] (by rw [fillU_all]) ?_
    refine V_ret ?_
    exact ⟨trivial, _, (by repeat (first | exact rfl | exact ResV_ag rfl rfl TI.h rfl rfl | exact ResV_one rfl rfl TI.h rfl | constructor)), by decide⟩

set_option maxHeartbeats 4000000 in
theorem toOObligation_step {f0 : U} {f1 : Int} (g0 : wt (.st 9) f0) (h0 : PToO 98 [35] f0) : PToO 72 [35] (.st [f0, .i .i64 f1]) := by
  intro hw
  have hW : W (.st [f0, .i .i64 f1]) = W f0 + (0 + 0) := rfl
  have c0 := h0 (by omega)
  clear h0
  clear hW hw
  obtain ⟨f0_0, f0_1, rfl, g0_0, g0_1⟩ := inv_Bound g0
  obtain ⟨f0_1_0, f0_1_1, f0_1_2, rfl, g0_1_0, g0_1_1, g0_1_2⟩ := inv_Type g0_1
  refine SpecO_intro Tryd.func72 rfl (by kernel_rfl) rfl (by simp) fun A _ => ?_
  repeat (first | refine VO_d ?_ | refine VQ_d ?_  | (first | refine VO_nil ?_ | refine VQ_nil ?_) | (first | refine V_seq_region ?_ | refine V_seq (V_seq_region ?_) | refine V_seq_draw tmix (by kernel_rfl) ?_ | refine V_seq (V_seq_draw tmix (by kernel_rfl) ?_) | refine V_region ?_ | refine V_draw tmix (by kernel_rfl) ?_))
  refine VO_callO rfl c0 (by (repeat (first | exact trivial | exact rfl | exact ⟨_, rfl⟩ | refine And.intro ?_ ?_)); first | done | fail) (by repeat constructor) (by repeat (first | exact rfl | constructor)) (by repeat constructor) rfl ?_
  repeat (first | refine VO_d ?_ | refine VQ_d ?_  | (first | refine VO_nil ?_ | refine VQ_nil ?_) | (first | refine V_seq_region ?_ | refine V_seq (V_seq_region ?_) | refine V_seq_draw tmix (by kernel_rfl) ?_ | refine V_seq (V_seq_draw tmix (by kernel_rfl) ?_) | refine V_region ?_ | refine V_draw tmix (by kernel_rfl) ?_))
  refine V_ret ?_
  exact ⟨trivial, _, (by repeat (first | exact rfl | exact ResV_ag rfl rfl TI.h rfl rfl | exact ResV_one rfl rfl TI.h rfl | constructor)), by decide⟩

theorem toOObligation_grp (u : U) : (wt (.st 23) u → PToO 72 [35] u) := by
  refine U.ind (M := fun u => (wt (.st 23) u → PToO 72 [35] u)) (fun u ih => ?_) u
  refine ?_
  · intro h
    obtain ⟨f0, f1, rfl, p0, p1⟩ := inv_Obligation h
    exact toOObligation_step p0 (toOBound_all p0)
theorem toOObligation_all {u : U} (h : wt (.st 23) u) : PToO 72 [35] u := (toOObligation_grp u) h
theorem toOObligationS_all {us : List U} (h : us.length ≤ big ∧ ∀ x ∈ us, wt (.st 23) x) : PToO 35 [125] (.sl 5 us) := toOObligationS_step h.2 (fun a ha => toOObligation_all (h.2 a ha))
set_option maxHeartbeats 4000000 in
theorem toOInferState_step {f0 : Int} {f1 : Int} {f2 : Int} {f3 : List U} {f4 : List U} {f5 : List U} {f6 : Int} {f7 : Int} (h3 : PToO 33 [118] (.sl 4 f3)) (h4 : PToO 34 [121] (.sl 7 f4)) (h5 : PToO 35 [125] (.sl 5 f5)) : PToO 8 [118, 121, 125] (.st [.i .i64 f0, .i .i64 f1, .i .i64 f2, .sl 4 f3, .sl 7 f4, .sl 5 f5, .i .i64 f6, .i .i64 f7]) := by
  intro hw
  have hW : W (.st [.i .i64 f0, .i .i64 f1, .i .i64 f2, .sl 4 f3, .sl 7 f4, .sl 5 f5, .i .i64 f6, .i .i64 f7]) = 0 + (0 + (0 + (W (U.sl 4 f3) + (W (U.sl 7 f4) + (W (U.sl 5 f5) + (0 + (0 + 0))))))) := rfl
  have c3 := h3 (by omega)
  clear h3
  have c4 := h4 (by omega)
  clear h4
  have c5 := h5 (by omega)
  clear h5
  clear hW hw
  refine SpecO_intro Tryd.func8 rfl (by kernel_rfl) rfl (by simp) fun A _ => ?_
  repeat (first | refine VO_d ?_ | refine VQ_d ?_  | (first | refine VO_nil ?_ | refine VQ_nil ?_) | (first | refine V_seq_region ?_ | refine V_seq (V_seq_region ?_) | refine V_seq_draw tmix (by kernel_rfl) ?_ | refine V_seq (V_seq_draw tmix (by kernel_rfl) ?_) | refine V_region ?_ | refine V_draw tmix (by kernel_rfl) ?_))
  refine VO_callO rfl c3 (by (repeat (first | exact trivial | exact rfl | exact ⟨_, rfl⟩ | refine And.intro ?_ ?_)); first | done | fail) (by repeat constructor) (by repeat (first | exact rfl | constructor)) (by repeat constructor) rfl ?_
  repeat (first | refine VO_d ?_ | refine VQ_d ?_  | (first | refine VO_nil ?_ | refine VQ_nil ?_) | (first | refine V_seq_region ?_ | refine V_seq (V_seq_region ?_) | refine V_seq_draw tmix (by kernel_rfl) ?_ | refine V_seq (V_seq_draw tmix (by kernel_rfl) ?_) | refine V_region ?_ | refine V_draw tmix (by kernel_rfl) ?_))
  refine VO_callO rfl c4 (by (repeat (first | exact trivial | exact rfl | exact ⟨_, rfl⟩ | refine And.intro ?_ ?_)); first | done | fail) (by repeat constructor) (by repeat (first | exact rfl | constructor)) (by repeat constructor) rfl ?_
  repeat (first | refine VO_d ?_ | refine VQ_d ?_  | (first | refine VO_nil ?_ | refine VQ_nil ?_) | (first | refine V_seq_region ?_ | refine V_seq (V_seq_region ?_) | refine V_seq_draw tmix (by kernel_rfl) ?_ | refine V_seq (V_seq_draw tmix (by kernel_rfl) ?_) | refine V_region ?_ | refine V_draw tmix (by kernel_rfl) ?_))
  refine VO_callO rfl c5 (by (repeat (first | exact trivial | exact rfl | exact ⟨_, rfl⟩ | refine And.intro ?_ ?_)); first | done | fail) (by repeat constructor) (by repeat (first | exact rfl | constructor)) (by repeat constructor) rfl ?_
  repeat (first | refine VO_d ?_ | refine VQ_d ?_  | (first | refine VO_nil ?_ | refine VQ_nil ?_) | (first | refine V_seq_region ?_ | refine V_seq (V_seq_region ?_) | refine V_seq_draw tmix (by kernel_rfl) ?_ | refine V_seq (V_seq_draw tmix (by kernel_rfl) ?_) | refine V_region ?_ | refine V_draw tmix (by kernel_rfl) ?_))
  refine V_ret ?_
  exact ⟨trivial, _, (by repeat (first | exact rfl | exact ResV_ag rfl rfl TI.h rfl rfl | exact ResV_one rfl rfl TI.h rfl | constructor)), by decide⟩

theorem toOInferState_grp (u : U) : (wt (.st 24) u → PToO 8 [118, 121, 125] u) := by
  refine U.ind (M := fun u => (wt (.st 24) u → PToO 8 [118, 121, 125] u)) (fun u ih => ?_) u
  refine ?_
  · intro h
    obtain ⟨f0, f1, f2, f3, f4, f5, f6, f7, rfl, p0, p1, p2, p3, p4, p5, p6, p7⟩ := inv_InferState h
    exact toOInferState_step (toOBindingS_all p3) (toOEquationS_all p4) (toOObligationS_all p5)
theorem toOInferState_all {u : U} (h : wt (.st 24) u) : PToO 8 [118, 121, 125] u := (toOInferState_grp u) h
end Go.Proofs.YthojhakapbfbiaaDoor

namespace Go.Proofs.YthojhakapbfbiaaDoor
open Go Go.Eng
attribute [local irreducible] V VO VQ VY Quiet SpecP SpecO MSpec

theorem markText_all (k : Int) (h0 : 0 < k) (h1 : k ≤ 4611686018427387904) : SpecP Tryd.prog 79 [.d (.i .i64 k)] [.s (txt k)] := by
  obtain ⟨n, rfl⟩ := Int.eq_ofNat_of_zero_le (Int.le_of_lt h0)
  show SpecP _ _ [.d (.i .i64 (n : Int))] [.s (109 :: dg 64 n [])]
  have hl := dg_len 64 n []
  obtain ⟨out, hout⟩ : ∃ out, dg 64 n [] = out := ⟨_, rfl⟩
  rw [hout] at hl ⊢
  simp only [List.length_nil, Nat.zero_add] at hl
  refine SpecP_intro Tryd.func79 rfl (by kernel_rfl) rfl fun A _ => ?_
  repeat (first | refine VO_d ?_ | refine VQ_d ?_  | (first | refine VO_nil ?_ | refine VQ_nil ?_) | (first | refine V_seq_region ?_ | refine V_seq (V_seq_region ?_) | refine V_seq_draw tmix (by kernel_rfl) ?_ | refine V_seq (V_seq_draw tmix (by kernel_rfl) ?_) | refine V_region ?_ | refine V_draw tmix (by kernel_rfl) ?_))
  (first | refine V_cond rfl (fun hc => ?_) (fun hc => ?_) | refine V_seq (V_cond rfl (fun hc => ?_) (fun hc => ?_)))
  · simp at hc; omega
  refine V_skip ?_
  repeat (first | refine VO_d ?_ | refine VQ_d ?_  | (first | refine VO_nil ?_ | refine VQ_nil ?_) | (first | refine V_seq_region ?_ | refine V_seq (V_seq_region ?_) | refine V_seq_draw tmix (by kernel_rfl) ?_ | refine V_seq (V_seq_draw tmix (by kernel_rfl) ?_) | refine V_region ?_ | refine V_draw tmix (by kernel_rfl) ?_))
  refine V_seq (V_block ?_)
  refine V_loop (α := Nat × Nat × List UInt8)
    (fun x => ⟨[(0, .d (.i .i64 (x.2.1 : Int))), (3, .d (.s x.2.2))], [], Tryd.f79.ntmps⟩)
    (fun x => x.2.1 ≤ n ∧ dg x.1 x.2.1 x.2.2 = out ∧ x.2.2.length + x.1 ≤ 64 ∧ x.2.1 < 10 ^ x.1)
    (fun x => x.2.1) (64, n, []) ⟨rfl, ⟨⟨rfl, rfl⟩, ⟨rfl, rfl⟩, trivial⟩, ⟨[], rfl⟩, rfl⟩ ⟨Nat.le_refl _, hout, by simp, by simp only; omega⟩ ?_
  rintro ⟨f, m, acc⟩ ⟨j1, j2, j3, j4⟩
  simp only at j1 j2 j3 j4
  repeat (first | refine VO_d ?_ | refine VQ_d ?_  | (first | refine VO_nil ?_ | refine VQ_nil ?_) | (first | refine V_seq_region ?_ | refine V_seq (V_seq_region ?_) | refine V_seq_draw tmix (by kernel_rfl) ?_ | refine V_seq (V_seq_draw tmix (by kernel_rfl) ?_) | refine V_region ?_ | refine V_draw tmix (by kernel_rfl) ?_))
  (first | refine V_cond rfl (fun hc2 => ?_) (fun hc2 => ?_) | refine V_seq (V_cond rfl (fun hc2 => ?_) (fun hc2 => ?_)))
  · refine V_skip ?_
    simp only [gt_iff_lt, decide_eq_true_eq] at hc2
    cases f with
    | zero => simp at j4; omega
    | succ f =>
    rw [dg, if_neg (by omega)] at j2
    refine V_block ?_
    repeat (first | refine VO_d ?_ | refine VQ_d ?_ | (first | refine VO_q (Q_rem (n := 10) rfl rfl rfl) rfl ?_ | refine VQ_q (Q_rem (n := 10) rfl rfl rfl) rfl ?_ | (refine VO_bare rfl rfl rfl rfl ?_; refine VO_q (Q_rem (n := 10) rfl rfl rfl) rfl ?_) | refine VQ_run rfl rfl rfl rfl (Q_rem (n := 10) rfl rfl rfl) rfl ?_) | (first | refine VO_q (Q_convI rfl TU.h TU.h) rfl ?_ | refine VQ_q (Q_convI rfl TU.h TU.h) rfl ?_ | (refine VO_bare rfl rfl rfl rfl ?_; refine VO_q (Q_convI rfl TU.h TU.h) rfl ?_) | refine VQ_run rfl rfl rfl rfl (Q_convI rfl TU.h TU.h) rfl ?_) | (first | refine VO_nil ?_ | refine VQ_nil ?_) | (first | refine V_seq_region ?_ | refine V_seq (V_seq_region ?_) | refine V_seq_draw tmix (by kernel_rfl) ?_ | refine V_seq (V_seq_draw tmix (by kernel_rfl) ?_) | refine V_region ?_ | refine V_draw tmix (by kernel_rfl) ?_))
    refine VR_slit1 (by repeat constructor) (by decide) TE.h TI.h TZ.h rfl rfl rfl (by repeat constructor) (by repeat constructor) ?_
    repeat (first | refine VO_d ?_ | refine VQ_d ?_ | (first | refine VO_q (Q_convB1 rfl rfl (tyE_und TE.h) TU.h TS.h) rfl ?_ | refine VQ_q (Q_convB1 rfl rfl (tyE_und TE.h) TU.h TS.h) rfl ?_ | (refine VO_bare rfl rfl rfl rfl ?_; refine VO_q (Q_convB1 rfl rfl (tyE_und TE.h) TU.h TS.h) rfl ?_) | refine VQ_run rfl rfl rfl rfl (Q_convB1 rfl rfl (tyE_und TE.h) TU.h TS.h) rfl ?_) | (first | refine VO_q (Q_adds rfl rfl (by rw [big_eq]; simp only [List.length_cons, List.length_nil]; omega)) rfl ?_ | refine VQ_q (Q_adds rfl rfl (by rw [big_eq]; simp only [List.length_cons, List.length_nil]; omega)) rfl ?_ | (refine VO_bare rfl rfl rfl rfl ?_; refine VO_q (Q_adds rfl rfl (by rw [big_eq]; simp only [List.length_cons, List.length_nil]; omega)) rfl ?_) | refine VQ_run rfl rfl rfl rfl (Q_adds rfl rfl (by rw [big_eq]; simp only [List.length_cons, List.length_nil]; omega)) rfl ?_) | (first | refine VO_q (Q_quo (m := m) (n := 10) rfl rfl rfl (by omega)) rfl ?_ | refine VQ_q (Q_quo (m := m) (n := 10) rfl rfl rfl (by omega)) rfl ?_ | (refine VO_bare rfl rfl rfl rfl ?_; refine VO_q (Q_quo (m := m) (n := 10) rfl rfl rfl (by omega)) rfl ?_) | refine VQ_run rfl rfl rfl rfl (Q_quo (m := m) (n := 10) rfl rfl rfl (by omega)) rfl ?_) | (first | refine VO_nil ?_ | refine VQ_nil ?_) | (first | refine V_seq_region ?_ | refine V_seq (V_seq_region ?_) | refine V_seq_draw tmix (by kernel_rfl) ?_ | refine V_seq (V_seq_draw tmix (by kernel_rfl) ?_) | refine V_region ?_ | refine V_draw tmix (by kernel_rfl) ?_))
    refine ⟨(f, m / 10, _ :: acc), ⟨?_, j2, ?_, ?_⟩, ?_, ⟨rfl, ⟨⟨rfl, rfl⟩, ⟨rfl, rfl⟩, trivial⟩, ⟨_, rfl⟩, rfl⟩⟩
    · simp only; omega
    · simp only [List.length_cons]; omega
    · simp only; rw [Nat.pow_succ] at j4; omega
    · simp only; omega
  refine V_exit ?_
  simp only [gt_iff_lt, decide_eq_false_iff_not] at hc2
  have hm : m = 0 := by omega
  subst hm
  have hacc : acc = out := by
    cases f with
    | zero => exact j2
    | succ f => rw [dg, if_pos rfl] at j2; exact j2
  subst hacc
  show V _ _ _ _ _
  repeat (first | refine VO_d ?_ | refine VQ_d ?_ | (first | refine VO_q (Q_adds rfl rfl (by rw [big_eq]; simp only [List.length_cons, List.length_nil]; omega)) rfl ?_ | refine VQ_q (Q_adds rfl rfl (by rw [big_eq]; simp only [List.length_cons, List.length_nil]; omega)) rfl ?_ | (refine VO_bare rfl rfl rfl rfl ?_; refine VO_q (Q_adds rfl rfl (by rw [big_eq]; simp only [List.length_cons, List.length_nil]; omega)) rfl ?_) | refine VQ_run rfl rfl rfl rfl (Q_adds rfl rfl (by rw [big_eq]; simp only [List.length_cons, List.length_nil]; omega)) rfl ?_) | (first | refine VO_nil ?_ | refine VQ_nil ?_) | (first | refine V_seq_region ?_ | refine V_seq (V_seq_region ?_) | refine V_seq_draw tmix (by kernel_rfl) ?_ | refine V_seq (V_seq_draw tmix (by kernel_rfl) ?_) | refine V_region ?_ | refine V_draw tmix (by kernel_rfl) ?_))
  refine V_ret ?_
  exact ⟨trivial, ⟨_, rfl, rfl⟩, trivial⟩

set_option maxRecDepth 8000 in
set_option maxHeartbeats 8000000 in
theorem markTypeS_step {us : List U} (hl : us.length ≤ big) (hz : ∀ a ∈ us, wt (.st 1) a) (ih0 : ∀ (a_0 : Int) (a_1 : List UInt8) (a_2 : List U), .st [.i .i64 a_0, .s a_1, .sl 3 a_2] ∈ us → PMk 45 (.sl 3 a_2)) : PMk 45 (.sl 3 us) := by
  intro k0 hk0 hk1
  have hlf : (U.sl 3 us).lf = U.lfs us := rfl
  rw [hlf] at hk1
  rw [big_eq] at hl
  show MSpec _ _ _ _ (.sl 3 (U.mks us k0).1) (U.mks us k0).2
  refine MSpec_intro (fun hv e => [.ownp (hv 0) (e 0) 3 us]) (fun hv e => [.ownp (hv 0) (e 0) 3 (U.mks us k0).1]) Tryd.func45 rfl (by kernel_rfl) rfl rfl (fun _ _ => .sl) (fun _ _ => .sl) rfl rfl fun A hv e _ => ?_
  repeat (first | refine VO_d ?_ | refine VQ_d ?_  | (first | refine VO_nil ?_ | refine VQ_nil ?_) | (first | refine V_seq_region ?_ | refine V_seq (V_seq_region ?_) | refine V_seq_draw tmix (by kernel_rfl) ?_ | refine V_seq (V_seq_draw tmix (by kernel_rfl) ?_) | refine V_region ?_ | refine V_draw tmix (by kernel_rfl) ?_))
  refine V_block ?_
  refine V_loop (α := Nat)
    (fun i => ⟨[(0, .sl 0 0), (1, .d (.i .i64 (U.mks (us.take i) k0).2)), (5, .d (.i .i64 i))], [.ownp (hv 0) (e 0) 3 ((U.mks (us.take i) k0).1 ++ us.drop i)], Tryd.f45.ntmps⟩)
    (fun i => i ≤ us.length)
    (fun i => us.length - i) 0 ⟨rfl, ⟨⟨rfl, rfl⟩, ⟨rfl, rfl⟩, ⟨rfl, rfl⟩, trivial⟩, ⟨[], rfl⟩, rfl⟩ (by simp) ?_
  intro i hi
  have hlen : ((U.mks (us.take i) k0).1 ++ us.drop i).length = us.length := by simp [mks_len]; omega
  repeat (first | refine VO_d ?_ | refine VQ_d ?_  | (first | refine VO_nil ?_ | refine VQ_nil ?_) | (first | refine V_seq_region ?_ | refine V_seq (V_seq_region ?_) | refine V_seq_draw tmix (by kernel_rfl) ?_ | refine V_seq (V_seq_draw tmix (by kernel_rfl) ?_) | refine V_region ?_ | refine V_draw tmix (by kernel_rfl) ?_))
  (first | refine V_cond rfl (fun hc2 => ?_) (fun hc2 => ?_) | refine V_seq (V_cond rfl (fun hc2 => ?_) (fun hc2 => ?_)))
  · refine V_skip ?_
    simp only [decide_eq_true_eq] at hc2
    rw [hlen] at hc2
    have hil : i < us.length := by omega
    obtain ⟨a, hget⟩ : ∃ a, us[i]? = some a := ⟨_, List.getElem?_eq_getElem hil⟩
    have hmem := List.mem_of_getElem? hget
    have hdrop := drop_get hget
    obtain ⟨hn1, hn2⟩ := mks_next hget k0
    have hmid := lfs_mid hget
    have hsnd := mks_snd (us.take i) k0
    have hpl : (U.mks (us.take i) k0).1.length = i := by simp [mks_len]; omega
    have hwa := hz a hmem
    obtain ⟨a_0, a_1, a_2, rfl, hwa_0, hwa_1, hwa_2⟩ := inv_Type hwa
    have hlfa : ((.st [.i .i64 a_0, .s a_1, .sl 3 a_2]) : U).lf = 0 + 1 + 1 + U.lfs a_2 := by simp [U.lf, U.lfs] <;> omega
    rw [hlfa] at hmid
    refine V_cast [.ownp (hv 0) (e 0) 3 ((U.mks (us.take i) k0).1 ++ (.st [.i .i64 a_0, .s a_1, .sl 3 a_2]) :: us.drop (i + 1))] (by rw [hdrop]) ?_
    have hkp : 0 < (U.mks (us.take i) k0).2 := by omega
    have hkb : (U.mks (us.take i) k0).2 + (0 + 1 + 1 + U.lfs a_2 : Nat) ≤ 4611686018427387904 := by omega
    have hlen' : ((U.mks (us.take i) k0).1 ++ (.st [.i .i64 a_0, .s a_1, .sl 3 a_2]) :: us.drop (i + 1)).length = us.length := by rw [← hdrop]; exact hlen
    clear hdrop hsnd hlfa hmid hlen
    generalize (U.mks (us.take i) k0).1 = pre at hn1 hpl hlen' ⊢
    generalize (U.mks (us.take i) k0).2 = kk at hn1 hn2 hkp hkb ⊢
    generalize hpost : us.drop (i + 1) = post at hlen' ⊢
    rw [List.length_append, List.length_cons] at hlen'
    refine V_seq (V_block ?_)
    repeat (first | refine VO_d ?_ | refine VQ_d ?_ | (first | refine VO_q (Q_index_own rfl rfl .ownp rfl TE.h TI.h (by omega) (by rw [List.length_append, List.length_cons]; omega)) rfl ?_ | refine VQ_q (Q_index_own rfl rfl .ownp rfl TE.h TI.h (by omega) (by rw [List.length_append, List.length_cons]; omega)) rfl ?_ | (refine VO_bare rfl rfl rfl rfl ?_; refine VO_q (Q_index_own rfl rfl .ownp rfl TE.h TI.h (by omega) (by rw [List.length_append, List.length_cons]; omega)) rfl ?_) | refine VQ_run rfl rfl rfl rfl (Q_index_own rfl rfl .ownp rfl TE.h TI.h (by omega) (by rw [List.length_append, List.length_cons]; omega)) rfl ?_) | (first | refine VO_nil ?_ | refine VQ_nil ?_) | (first | refine V_seq_region ?_ | refine V_seq (V_seq_region ?_) | refine V_seq_draw tmix (by kernel_rfl) ?_ | refine V_seq (V_seq_draw tmix (by kernel_rfl) ?_) | refine V_region ?_ | refine V_draw tmix (by kernel_rfl) ?_))
    refine VR_storeF (v := .i .i64 (kk)) rfl rfl .ownp hpl rfl rfl TI.h (by repeat constructor) .ownp (by repeat constructor) ?_
    have ht1 := markText_all (kk + 1) (by omega) (by omega)
    repeat (first | refine VO_d ?_ | refine VQ_d ?_ | (first | refine VO_q (Q_index_own rfl rfl .ownp rfl TE.h TI.h (by omega) (by rw [List.length_append, List.length_cons]; omega)) rfl ?_ | refine VQ_q (Q_index_own rfl rfl .ownp rfl TE.h TI.h (by omega) (by rw [List.length_append, List.length_cons]; omega)) rfl ?_ | (refine VO_bare rfl rfl rfl rfl ?_; refine VO_q (Q_index_own rfl rfl .ownp rfl TE.h TI.h (by omega) (by rw [List.length_append, List.length_cons]; omega)) rfl ?_) | refine VQ_run rfl rfl rfl rfl (Q_index_own rfl rfl .ownp rfl TE.h TI.h (by omega) (by rw [List.length_append, List.length_cons]; omega)) rfl ?_) | (first | refine VO_q (Q_call rfl ht1 (by (repeat (first | exact trivial | exact rfl | exact ⟨_, rfl⟩ | refine And.intro ?_ ?_)); first | done | fail)) rfl ?_ | refine VQ_q (Q_call rfl ht1 (by (repeat (first | exact trivial | exact rfl | exact ⟨_, rfl⟩ | refine And.intro ?_ ?_)); first | done | fail)) rfl ?_ | (refine VO_bare rfl rfl rfl rfl ?_; refine VO_q (Q_call rfl ht1 (by (repeat (first | exact trivial | exact rfl | exact ⟨_, rfl⟩ | refine And.intro ?_ ?_)); first | done | fail)) rfl ?_) | refine VQ_run rfl rfl rfl rfl (Q_call rfl ht1 (by (repeat (first | exact trivial | exact rfl | exact ⟨_, rfl⟩ | refine And.intro ?_ ?_)); first | done | fail)) rfl ?_) | (first | refine VO_nil ?_ | refine VQ_nil ?_) | (first | refine V_seq_region ?_ | refine V_seq (V_seq_region ?_) | refine V_seq_draw tmix (by kernel_rfl) ?_ | refine V_seq (V_seq_draw tmix (by kernel_rfl) ?_) | refine V_region ?_ | refine V_draw tmix (by kernel_rfl) ?_))
    refine VR_storeF (v := .s (txt (kk + 1))) rfl rfl .ownp hpl rfl rfl TI.h (by repeat constructor) .ownp (by repeat constructor) ?_
    have hm2 := ih0 a_0 a_1 a_2 hmem (kk + 1 + 1) (by omega) (by simp only [U.lf]; omega)
    change MSpec _ _ _ _ (.sl 3 (U.mks a_2 (kk + 1 + 1)).1) (U.mks a_2 (kk + 1 + 1)).2 at hm2
    have hs2 := mks_snd a_2 (kk + 1 + 1)
    repeat (first | refine VO_d ?_ | refine VQ_d ?_ | (first | refine VO_q (Q_index_own rfl rfl .ownp rfl TE.h TI.h (by omega) (by rw [List.length_append, List.length_cons]; omega)) rfl ?_ | refine VQ_q (Q_index_own rfl rfl .ownp rfl TE.h TI.h (by omega) (by rw [List.length_append, List.length_cons]; omega)) rfl ?_ | (refine VO_bare rfl rfl rfl rfl ?_; refine VO_q (Q_index_own rfl rfl .ownp rfl TE.h TI.h (by omega) (by rw [List.length_append, List.length_cons]; omega)) rfl ?_) | refine VQ_run rfl rfl rfl rfl (Q_index_own rfl rfl .ownp rfl TE.h TI.h (by omega) (by rw [List.length_append, List.length_cons]; omega)) rfl ?_) | (first | refine VO_nil ?_ | refine VQ_nil ?_) | (first | refine V_seq_region ?_ | refine V_seq (V_seq_region ?_) | refine V_seq_draw tmix (by kernel_rfl) ?_ | refine V_seq (V_seq_draw tmix (by kernel_rfl) ?_) | refine V_region ?_ | refine V_draw tmix (by kernel_rfl) ?_))
    refine VR_markcall hm2 rfl rfl .ownp hpl TI.h (by repeat constructor) rfl rfl (by simp) .ownp (by repeat constructor) rfl rfl rfl (by decide) ?_
    repeat (first | refine VO_d ?_ | refine VQ_d ?_  | (first | refine VO_nil ?_ | refine VQ_nil ?_) | (first | refine V_seq_region ?_ | refine V_seq (V_seq_region ?_) | refine V_seq_draw tmix (by kernel_rfl) ?_ | refine V_seq (V_seq_draw tmix (by kernel_rfl) ?_) | refine V_region ?_ | refine V_draw tmix (by kernel_rfl) ?_))
    refine ⟨i + 1, by omega, by omega, ⟨rfl, ⟨⟨rfl, rfl⟩, ⟨?_, rfl⟩, ⟨rfl, rfl⟩, trivial⟩, ⟨[], ?_⟩, rfl⟩⟩
    · rw [hn2]; rfl
    · rw [hn1, hpost, List.append_assoc]; rfl
  · refine V_exit ?_
    simp only [decide_eq_false_iff_not] at hc2
    rw [hlen] at hc2
    have hkl : i = us.length := by omega
    subst hkl
    show V _ _ _ _ _
    repeat (first | refine VO_d ?_ | refine VQ_d ?_  | (first | refine VO_nil ?_ | refine VQ_nil ?_) | (first | refine V_seq_region ?_ | refine V_seq (V_seq_region ?_) | refine V_seq_draw tmix (by kernel_rfl) ?_ | refine V_seq (V_seq_draw tmix (by kernel_rfl) ?_) | refine V_region ?_ | refine V_draw tmix (by kernel_rfl) ?_))
    refine V_ret ?_
    refine ⟨trivial, ?_, [], ?_⟩
    · show SV.d (.i .i64 (U.mks (us.take us.length) k0).2) = _
      rw [List.take_length]
    · simp only [List.take_length, List.drop_length, List.append_nil]

set_option maxRecDepth 8000 in
set_option maxHeartbeats 8000000 in
theorem markType_step {f0 : Int} {f1 : List UInt8} {f2 : List U} (h2 : PMk 45 (.sl 3 f2)) : PMk 13 (.st [.i .i64 f0, .s f1, .sl 3 f2]) := by
  intro k0 hk0 hk1
  have hlf : ((.st [.i .i64 f0, .s f1, .sl 3 f2]) : U).lf = 0 + 1 + 1 + U.lfs f2 := by simp [U.lf, U.lfs] <;> omega
  rw [hlf] at hk1
  show MSpec _ _ _ _ (.st [.i .i64 f0, .s f1, .sl 3 (U.mks f2 (k0)).1]) ((U.mks f2 (k0)).2)
  refine MSpec_intro (fun hv e => [.ownp (hv 0) (e 0) 3 f2]) (fun hv e => [.ownp (hv 0) (e 0) 3 (U.mks f2 (k0)).1]) Tryd.func13 rfl (by kernel_rfl) rfl rfl (fun _ _ => by repeat constructor) (fun _ _ => by repeat constructor) rfl rfl fun A hv e _ => ?_
  have hm2 := h2 (k0) (by omega) (by simp only [U.lf, U.lfs]; omega)
  have hs_f2 := mks_snd f2 (k0)
  repeat (first | refine VO_d ?_ | refine VQ_d ?_  | (first | refine VO_nil ?_ | refine VQ_nil ?_) | (first | refine V_seq_region ?_ | refine V_seq (V_seq_region ?_) | refine V_seq_draw tmix (by kernel_rfl) ?_ | refine V_seq (V_seq_draw tmix (by kernel_rfl) ?_) | refine V_region ?_ | refine V_draw tmix (by kernel_rfl) ?_))
  refine VO_callM rfl hm2 rfl rfl (by repeat (first | exact rfl | constructor)) rfl (by repeat constructor) rfl ?_
  repeat (first | refine VO_d ?_ | refine VQ_d ?_  | (first | refine VO_nil ?_ | refine VQ_nil ?_) | (first | refine V_seq_region ?_ | refine V_seq (V_seq_region ?_) | refine V_seq_draw tmix (by kernel_rfl) ?_ | refine V_seq (V_seq_draw tmix (by kernel_rfl) ?_) | refine V_region ?_ | refine V_draw tmix (by kernel_rfl) ?_))
  refine V_ret ?_
  exact ⟨trivial, rfl, _, rfl⟩

theorem markType_grp (u : U) : (∀ us, u = .sl 3 us → us.length ≤ big → (∀ x ∈ us, wt (.st 1) x) → PMk 45 u) := by
  refine U.ind (M := fun u => (∀ us, u = .sl 3 us → us.length ≤ big → (∀ x ∈ us, wt (.st 1) x) → PMk 45 u)) (fun u ih => ?_) u
  refine ?_
  · rintro us rfl hl hz
    exact markTypeS_step hl hz (fun a_0 a_1 a_2 ha => by obtain ⟨_, _, _, hx_a, qa_0, qa_1, qa_2⟩ := inv_Type (hz _ ha); cases hx_a; exact (ih (.sl 3 a_2) (by have := nn_of_mem ha; simp only [U.nn, U.nns] at this ⊢; omega)) a_2 rfl qa_2.1 qa_2.2)
theorem markTypeS_all {us : List U} (h : us.length ≤ big ∧ ∀ x ∈ us, wt (.st 1) x) : PMk 45 (.sl 3 us) := (markType_grp (.sl 3 us)) us rfl h.1 h.2
theorem markType_all {u : U} (h : wt (.st 1) u) : PMk 13 u := by
  obtain ⟨f0, f1, f2, rfl, p0, p1, p2⟩ := inv_Type h
  exact markType_step (markTypeS_all p2)

set_option maxRecDepth 8000 in
set_option maxHeartbeats 8000000 in
theorem markBindingS_step {us : List U} (hl : us.length ≤ big) (hz : ∀ a ∈ us, wt (.st 2) a) (ih0 : ∀ (a_0 : List UInt8) (a_1_0 : Int) (a_1_1 : List UInt8) (a_1_2 : List U), .st [.s a_0, .st [.i .i64 a_1_0, .s a_1_1, .sl 3 a_1_2]] ∈ us → PMk 45 (.sl 3 a_1_2)) : PMk 42 (.sl 4 us) := by
  intro k0 hk0 hk1
  have hlf : (U.sl 4 us).lf = U.lfs us := rfl
  rw [hlf] at hk1
  rw [big_eq] at hl
  show MSpec _ _ _ _ (.sl 4 (U.mks us k0).1) (U.mks us k0).2
  refine MSpec_intro (fun hv e => [.ownp (hv 0) (e 0) 4 us]) (fun hv e => [.ownp (hv 0) (e 0) 4 (U.mks us k0).1]) Tryd.func42 rfl (by kernel_rfl) rfl rfl (fun _ _ => .sl) (fun _ _ => .sl) rfl rfl fun A hv e _ => ?_
  repeat (first | refine VO_d ?_ | refine VQ_d ?_  | (first | refine VO_nil ?_ | refine VQ_nil ?_) | (first | refine V_seq_region ?_ | refine V_seq (V_seq_region ?_) | refine V_seq_draw tmix (by kernel_rfl) ?_ | refine V_seq (V_seq_draw tmix (by kernel_rfl) ?_) | refine V_region ?_ | refine V_draw tmix (by kernel_rfl) ?_))
  refine V_block ?_
  refine V_loop (α := Nat)
    (fun i => ⟨[(0, .sl 0 0), (1, .d (.i .i64 (U.mks (us.take i) k0).2)), (5, .d (.i .i64 i))], [.ownp (hv 0) (e 0) 4 ((U.mks (us.take i) k0).1 ++ us.drop i)], Tryd.f42.ntmps⟩)
    (fun i => i ≤ us.length)
    (fun i => us.length - i) 0 ⟨rfl, ⟨⟨rfl, rfl⟩, ⟨rfl, rfl⟩, ⟨rfl, rfl⟩, trivial⟩, ⟨[], rfl⟩, rfl⟩ (by simp) ?_
  intro i hi
  have hlen : ((U.mks (us.take i) k0).1 ++ us.drop i).length = us.length := by simp [mks_len]; omega
  repeat (first | refine VO_d ?_ | refine VQ_d ?_  | (first | refine VO_nil ?_ | refine VQ_nil ?_) | (first | refine V_seq_region ?_ | refine V_seq (V_seq_region ?_) | refine V_seq_draw tmix (by kernel_rfl) ?_ | refine V_seq (V_seq_draw tmix (by kernel_rfl) ?_) | refine V_region ?_ | refine V_draw tmix (by kernel_rfl) ?_))
  (first | refine V_cond rfl (fun hc2 => ?_) (fun hc2 => ?_) | refine V_seq (V_cond rfl (fun hc2 => ?_) (fun hc2 => ?_)))
  · refine V_skip ?_
    simp only [decide_eq_true_eq] at hc2
    rw [hlen] at hc2
    have hil : i < us.length := by omega
    obtain ⟨a, hget⟩ : ∃ a, us[i]? = some a := ⟨_, List.getElem?_eq_getElem hil⟩
    have hmem := List.mem_of_getElem? hget
    have hdrop := drop_get hget
    obtain ⟨hn1, hn2⟩ := mks_next hget k0
    have hmid := lfs_mid hget
    have hsnd := mks_snd (us.take i) k0
    have hpl : (U.mks (us.take i) k0).1.length = i := by simp [mks_len]; omega
    have hwa := hz a hmem
    obtain ⟨a_0, a_1, rfl, hwa_0, hwa_1⟩ := inv_Binding hwa
    obtain ⟨a_1_0, a_1_1, a_1_2, rfl, hwa_1_0, hwa_1_1, hwa_1_2⟩ := inv_Type hwa_1
    have hlfa : ((.st [.s a_0, .st [.i .i64 a_1_0, .s a_1_1, .sl 3 a_1_2]]) : U).lf = 0 + 1 + 1 + 1 + U.lfs a_1_2 := by simp [U.lf, U.lfs] <;> omega
    rw [hlfa] at hmid
    refine V_cast [.ownp (hv 0) (e 0) 4 ((U.mks (us.take i) k0).1 ++ (.st [.s a_0, .st [.i .i64 a_1_0, .s a_1_1, .sl 3 a_1_2]]) :: us.drop (i + 1))] (by rw [hdrop]) ?_
    have hkp : 0 < (U.mks (us.take i) k0).2 := by omega
    have hkb : (U.mks (us.take i) k0).2 + (0 + 1 + 1 + 1 + U.lfs a_1_2 : Nat) ≤ 4611686018427387904 := by omega
    have hlen' : ((U.mks (us.take i) k0).1 ++ (.st [.s a_0, .st [.i .i64 a_1_0, .s a_1_1, .sl 3 a_1_2]]) :: us.drop (i + 1)).length = us.length := by rw [← hdrop]; exact hlen
    clear hdrop hsnd hlfa hmid hlen
    generalize (U.mks (us.take i) k0).1 = pre at hn1 hpl hlen' ⊢
    generalize (U.mks (us.take i) k0).2 = kk at hn1 hn2 hkp hkb ⊢
    generalize hpost : us.drop (i + 1) = post at hlen' ⊢
    rw [List.length_append, List.length_cons] at hlen'
    refine V_seq (V_block ?_)
    have ht0 := markText_all (kk) (by omega) (by omega)
    repeat (first | refine VO_d ?_ | refine VQ_d ?_ | (first | refine VO_q (Q_index_own rfl rfl .ownp rfl TE.h TI.h (by omega) (by rw [List.length_append, List.length_cons]; omega)) rfl ?_ | refine VQ_q (Q_index_own rfl rfl .ownp rfl TE.h TI.h (by omega) (by rw [List.length_append, List.length_cons]; omega)) rfl ?_ | (refine VO_bare rfl rfl rfl rfl ?_; refine VO_q (Q_index_own rfl rfl .ownp rfl TE.h TI.h (by omega) (by rw [List.length_append, List.length_cons]; omega)) rfl ?_) | refine VQ_run rfl rfl rfl rfl (Q_index_own rfl rfl .ownp rfl TE.h TI.h (by omega) (by rw [List.length_append, List.length_cons]; omega)) rfl ?_) | (first | refine VO_q (Q_call rfl ht0 (by (repeat (first | exact trivial | exact rfl | exact ⟨_, rfl⟩ | refine And.intro ?_ ?_)); first | done | fail)) rfl ?_ | refine VQ_q (Q_call rfl ht0 (by (repeat (first | exact trivial | exact rfl | exact ⟨_, rfl⟩ | refine And.intro ?_ ?_)); first | done | fail)) rfl ?_ | (refine VO_bare rfl rfl rfl rfl ?_; refine VO_q (Q_call rfl ht0 (by (repeat (first | exact trivial | exact rfl | exact ⟨_, rfl⟩ | refine And.intro ?_ ?_)); first | done | fail)) rfl ?_) | refine VQ_run rfl rfl rfl rfl (Q_call rfl ht0 (by (repeat (first | exact trivial | exact rfl | exact ⟨_, rfl⟩ | refine And.intro ?_ ?_)); first | done | fail)) rfl ?_) | (first | refine VO_nil ?_ | refine VQ_nil ?_) | (first | refine V_seq_region ?_ | refine V_seq (V_seq_region ?_) | refine V_seq_draw tmix (by kernel_rfl) ?_ | refine V_seq (V_seq_draw tmix (by kernel_rfl) ?_) | refine V_region ?_ | refine V_draw tmix (by kernel_rfl) ?_))
    refine VR_storeF (v := .s (txt (kk))) rfl rfl .ownp hpl rfl rfl TI.h (by repeat constructor) .ownp (by repeat constructor) ?_
    repeat (first | refine VO_d ?_ | refine VQ_d ?_ | (first | refine VO_q (Q_index_own rfl rfl .ownp rfl TE.h TI.h (by omega) (by rw [List.length_append, List.length_cons]; omega)) rfl ?_ | refine VQ_q (Q_index_own rfl rfl .ownp rfl TE.h TI.h (by omega) (by rw [List.length_append, List.length_cons]; omega)) rfl ?_ | (refine VO_bare rfl rfl rfl rfl ?_; refine VO_q (Q_index_own rfl rfl .ownp rfl TE.h TI.h (by omega) (by rw [List.length_append, List.length_cons]; omega)) rfl ?_) | refine VQ_run rfl rfl rfl rfl (Q_index_own rfl rfl .ownp rfl TE.h TI.h (by omega) (by rw [List.length_append, List.length_cons]; omega)) rfl ?_) | (first | refine VO_nil ?_ | refine VQ_nil ?_) | (first | refine V_seq_region ?_ | refine V_seq (V_seq_region ?_) | refine V_seq_draw tmix (by kernel_rfl) ?_ | refine V_seq (V_seq_draw tmix (by kernel_rfl) ?_) | refine V_region ?_ | refine V_draw tmix (by kernel_rfl) ?_))
    refine VR_storeF (v := .i .i64 (kk + 1)) rfl rfl .ownp hpl rfl rfl TI.h (by repeat constructor) .ownp (by repeat constructor) ?_
    have ht2 := markText_all (kk + 1 + 1) (by omega) (by omega)
    repeat (first | refine VO_d ?_ | refine VQ_d ?_ | (first | refine VO_q (Q_index_own rfl rfl .ownp rfl TE.h TI.h (by omega) (by rw [List.length_append, List.length_cons]; omega)) rfl ?_ | refine VQ_q (Q_index_own rfl rfl .ownp rfl TE.h TI.h (by omega) (by rw [List.length_append, List.length_cons]; omega)) rfl ?_ | (refine VO_bare rfl rfl rfl rfl ?_; refine VO_q (Q_index_own rfl rfl .ownp rfl TE.h TI.h (by omega) (by rw [List.length_append, List.length_cons]; omega)) rfl ?_) | refine VQ_run rfl rfl rfl rfl (Q_index_own rfl rfl .ownp rfl TE.h TI.h (by omega) (by rw [List.length_append, List.length_cons]; omega)) rfl ?_) | (first | refine VO_q (Q_call rfl ht2 (by (repeat (first | exact trivial | exact rfl | exact ⟨_, rfl⟩ | refine And.intro ?_ ?_)); first | done | fail)) rfl ?_ | refine VQ_q (Q_call rfl ht2 (by (repeat (first | exact trivial | exact rfl | exact ⟨_, rfl⟩ | refine And.intro ?_ ?_)); first | done | fail)) rfl ?_ | (refine VO_bare rfl rfl rfl rfl ?_; refine VO_q (Q_call rfl ht2 (by (repeat (first | exact trivial | exact rfl | exact ⟨_, rfl⟩ | refine And.intro ?_ ?_)); first | done | fail)) rfl ?_) | refine VQ_run rfl rfl rfl rfl (Q_call rfl ht2 (by (repeat (first | exact trivial | exact rfl | exact ⟨_, rfl⟩ | refine And.intro ?_ ?_)); first | done | fail)) rfl ?_) | (first | refine VO_nil ?_ | refine VQ_nil ?_) | (first | refine V_seq_region ?_ | refine V_seq (V_seq_region ?_) | refine V_seq_draw tmix (by kernel_rfl) ?_ | refine V_seq (V_seq_draw tmix (by kernel_rfl) ?_) | refine V_region ?_ | refine V_draw tmix (by kernel_rfl) ?_))
    refine VR_storeF (v := .s (txt (kk + 1 + 1))) rfl rfl .ownp hpl rfl rfl TI.h (by repeat constructor) .ownp (by repeat constructor) ?_
    have hm3 := ih0 a_0 a_1_0 a_1_1 a_1_2 hmem (kk + 1 + 1 + 1) (by omega) (by simp only [U.lf]; omega)
    change MSpec _ _ _ _ (.sl 3 (U.mks a_1_2 (kk + 1 + 1 + 1)).1) (U.mks a_1_2 (kk + 1 + 1 + 1)).2 at hm3
    have hs3 := mks_snd a_1_2 (kk + 1 + 1 + 1)
    repeat (first | refine VO_d ?_ | refine VQ_d ?_ | (first | refine VO_q (Q_index_own rfl rfl .ownp rfl TE.h TI.h (by omega) (by rw [List.length_append, List.length_cons]; omega)) rfl ?_ | refine VQ_q (Q_index_own rfl rfl .ownp rfl TE.h TI.h (by omega) (by rw [List.length_append, List.length_cons]; omega)) rfl ?_ | (refine VO_bare rfl rfl rfl rfl ?_; refine VO_q (Q_index_own rfl rfl .ownp rfl TE.h TI.h (by omega) (by rw [List.length_append, List.length_cons]; omega)) rfl ?_) | refine VQ_run rfl rfl rfl rfl (Q_index_own rfl rfl .ownp rfl TE.h TI.h (by omega) (by rw [List.length_append, List.length_cons]; omega)) rfl ?_) | (first | refine VO_nil ?_ | refine VQ_nil ?_) | (first | refine V_seq_region ?_ | refine V_seq (V_seq_region ?_) | refine V_seq_draw tmix (by kernel_rfl) ?_ | refine V_seq (V_seq_draw tmix (by kernel_rfl) ?_) | refine V_region ?_ | refine V_draw tmix (by kernel_rfl) ?_))
    refine VR_markcall hm3 rfl rfl .ownp hpl TI.h (by repeat constructor) rfl rfl (by simp) .ownp (by repeat constructor) rfl rfl rfl (by decide) ?_
    repeat (first | refine VO_d ?_ | refine VQ_d ?_  | (first | refine VO_nil ?_ | refine VQ_nil ?_) | (first | refine V_seq_region ?_ | refine V_seq (V_seq_region ?_) | refine V_seq_draw tmix (by kernel_rfl) ?_ | refine V_seq (V_seq_draw tmix (by kernel_rfl) ?_) | refine V_region ?_ | refine V_draw tmix (by kernel_rfl) ?_))
    refine ⟨i + 1, by omega, by omega, ⟨rfl, ⟨⟨rfl, rfl⟩, ⟨?_, rfl⟩, ⟨rfl, rfl⟩, trivial⟩, ⟨[], ?_⟩, rfl⟩⟩
    · rw [hn2]; rfl
    · rw [hn1, hpost, List.append_assoc]; rfl
  · refine V_exit ?_
    simp only [decide_eq_false_iff_not] at hc2
    rw [hlen] at hc2
    have hkl : i = us.length := by omega
    subst hkl
    show V _ _ _ _ _
    repeat (first | refine VO_d ?_ | refine VQ_d ?_  | (first | refine VO_nil ?_ | refine VQ_nil ?_) | (first | refine V_seq_region ?_ | refine V_seq (V_seq_region ?_) | refine V_seq_draw tmix (by kernel_rfl) ?_ | refine V_seq (V_seq_draw tmix (by kernel_rfl) ?_) | refine V_region ?_ | refine V_draw tmix (by kernel_rfl) ?_))
    refine V_ret ?_
    refine ⟨trivial, ?_, [], ?_⟩
    · show SV.d (.i .i64 (U.mks (us.take us.length) k0).2) = _
      rw [List.take_length]
    · simp only [List.take_length, List.drop_length, List.append_nil]

theorem markBinding_grp (u : U) : (∀ us, u = .sl 4 us → us.length ≤ big → (∀ x ∈ us, wt (.st 2) x) → PMk 42 u) := by
  refine U.ind (M := fun u => (∀ us, u = .sl 4 us → us.length ≤ big → (∀ x ∈ us, wt (.st 2) x) → PMk 42 u)) (fun u ih => ?_) u
  refine ?_
  · rintro us rfl hl hz
    exact markBindingS_step hl hz (fun a_0 a_1_0 a_1_1 a_1_2 ha => by obtain ⟨_, _, hx_a, qa_0, qa_1⟩ := inv_Binding (hz _ ha); cases hx_a; obtain ⟨_, _, _, hx_a_1, qa_1_0, qa_1_1, qa_1_2⟩ := inv_Type qa_1; cases hx_a_1; exact markTypeS_all qa_1_2)
theorem markBindingS_all {us : List U} (h : us.length ≤ big ∧ ∀ x ∈ us, wt (.st 2) x) : PMk 42 (.sl 4 us) := (markBinding_grp (.sl 4 us)) us rfl h.1 h.2
set_option maxRecDepth 8000 in
set_option maxHeartbeats 8000000 in
theorem markEquationS_step {us : List U} (hl : us.length ≤ big) (hz : ∀ a ∈ us, wt (.st 22) a) (ih0 : ∀ (a_0_0 : Int) (a_0_1 : List UInt8) (a_0_2 : List U) (a_1_0 : Int) (a_1_1 : List UInt8) (a_1_2 : List U) (a_2 : Int), .st [.st [.i .i64 a_0_0, .s a_0_1, .sl 3 a_0_2], .st [.i .i64 a_1_0, .s a_1_1, .sl 3 a_1_2], .i .i64 a_2] ∈ us → PMk 45 (.sl 3 a_0_2)) (ih1 : ∀ (a_0_0 : Int) (a_0_1 : List UInt8) (a_0_2 : List U) (a_1_0 : Int) (a_1_1 : List UInt8) (a_1_2 : List U) (a_2 : Int), .st [.st [.i .i64 a_0_0, .s a_0_1, .sl 3 a_0_2], .st [.i .i64 a_1_0, .s a_1_1, .sl 3 a_1_2], .i .i64 a_2] ∈ us → PMk 45 (.sl 3 a_1_2)) : PMk 43 (.sl 7 us) := by
  intro k0 hk0 hk1
  have hlf : (U.sl 7 us).lf = U.lfs us := rfl
  rw [hlf] at hk1
  rw [big_eq] at hl
  show MSpec _ _ _ _ (.sl 7 (U.mks us k0).1) (U.mks us k0).2
  refine MSpec_intro (fun hv e => [.ownp (hv 0) (e 0) 7 us]) (fun hv e => [.ownp (hv 0) (e 0) 7 (U.mks us k0).1]) Tryd.func43 rfl (by kernel_rfl) rfl rfl (fun _ _ => .sl) (fun _ _ => .sl) rfl rfl fun A hv e _ => ?_
  repeat (first | refine VO_d ?_ | refine VQ_d ?_  | (first | refine VO_nil ?_ | refine VQ_nil ?_) | (first | refine V_seq_region ?_ | refine V_seq (V_seq_region ?_) | refine V_seq_draw tmix (by kernel_rfl) ?_ | refine V_seq (V_seq_draw tmix (by kernel_rfl) ?_) | refine V_region ?_ | refine V_draw tmix (by kernel_rfl) ?_))
  refine V_block ?_
  refine V_loop (α := Nat)
    (fun i => ⟨[(0, .sl 0 0), (1, .d (.i .i64 (U.mks (us.take i) k0).2)), (5, .d (.i .i64 i))], [.ownp (hv 0) (e 0) 7 ((U.mks (us.take i) k0).1 ++ us.drop i)], Tryd.f43.ntmps⟩)
    (fun i => i ≤ us.length)
    (fun i => us.length - i) 0 ⟨rfl, ⟨⟨rfl, rfl⟩, ⟨rfl, rfl⟩, ⟨rfl, rfl⟩, trivial⟩, ⟨[], rfl⟩, rfl⟩ (by simp) ?_
  intro i hi
  have hlen : ((U.mks (us.take i) k0).1 ++ us.drop i).length = us.length := by simp [mks_len]; omega
  repeat (first | refine VO_d ?_ | refine VQ_d ?_  | (first | refine VO_nil ?_ | refine VQ_nil ?_) | (first | refine V_seq_region ?_ | refine V_seq (V_seq_region ?_) | refine V_seq_draw tmix (by kernel_rfl) ?_ | refine V_seq (V_seq_draw tmix (by kernel_rfl) ?_) | refine V_region ?_ | refine V_draw tmix (by kernel_rfl) ?_))
  (first | refine V_cond rfl (fun hc2 => ?_) (fun hc2 => ?_) | refine V_seq (V_cond rfl (fun hc2 => ?_) (fun hc2 => ?_)))
  · refine V_skip ?_
    simp only [decide_eq_true_eq] at hc2
    rw [hlen] at hc2
    have hil : i < us.length := by omega
    obtain ⟨a, hget⟩ : ∃ a, us[i]? = some a := ⟨_, List.getElem?_eq_getElem hil⟩
    have hmem := List.mem_of_getElem? hget
    have hdrop := drop_get hget
    obtain ⟨hn1, hn2⟩ := mks_next hget k0
    have hmid := lfs_mid hget
    have hsnd := mks_snd (us.take i) k0
    have hpl : (U.mks (us.take i) k0).1.length = i := by simp [mks_len]; omega
    have hwa := hz a hmem
    obtain ⟨a_0, a_1, a_2, rfl, hwa_0, hwa_1, hwa_2⟩ := inv_Equation hwa
    obtain ⟨a_0_0, a_0_1, a_0_2, rfl, hwa_0_0, hwa_0_1, hwa_0_2⟩ := inv_Type hwa_0
    obtain ⟨a_1_0, a_1_1, a_1_2, rfl, hwa_1_0, hwa_1_1, hwa_1_2⟩ := inv_Type hwa_1
    have hlfa : ((.st [.st [.i .i64 a_0_0, .s a_0_1, .sl 3 a_0_2], .st [.i .i64 a_1_0, .s a_1_1, .sl 3 a_1_2], .i .i64 a_2]) : U).lf = 0 + 1 + 1 + U.lfs a_0_2 + 1 + 1 + U.lfs a_1_2 + 1 := by simp [U.lf, U.lfs] <;> omega
    rw [hlfa] at hmid
    refine V_cast [.ownp (hv 0) (e 0) 7 ((U.mks (us.take i) k0).1 ++ (.st [.st [.i .i64 a_0_0, .s a_0_1, .sl 3 a_0_2], .st [.i .i64 a_1_0, .s a_1_1, .sl 3 a_1_2], .i .i64 a_2]) :: us.drop (i + 1))] (by rw [hdrop]) ?_
    have hkp : 0 < (U.mks (us.take i) k0).2 := by omega
    have hkb : (U.mks (us.take i) k0).2 + (0 + 1 + 1 + U.lfs a_0_2 + 1 + 1 + U.lfs a_1_2 + 1 : Nat) ≤ 4611686018427387904 := by omega
    have hlen' : ((U.mks (us.take i) k0).1 ++ (.st [.st [.i .i64 a_0_0, .s a_0_1, .sl 3 a_0_2], .st [.i .i64 a_1_0, .s a_1_1, .sl 3 a_1_2], .i .i64 a_2]) :: us.drop (i + 1)).length = us.length := by rw [← hdrop]; exact hlen
    clear hdrop hsnd hlfa hmid hlen
    generalize (U.mks (us.take i) k0).1 = pre at hn1 hpl hlen' ⊢
    generalize (U.mks (us.take i) k0).2 = kk at hn1 hn2 hkp hkb ⊢
    generalize hpost : us.drop (i + 1) = post at hlen' ⊢
    rw [List.length_append, List.length_cons] at hlen'
    refine V_seq (V_block ?_)
    repeat (first | refine VO_d ?_ | refine VQ_d ?_ | (first | refine VO_q (Q_index_own rfl rfl .ownp rfl TE.h TI.h (by omega) (by rw [List.length_append, List.length_cons]; omega)) rfl ?_ | refine VQ_q (Q_index_own rfl rfl .ownp rfl TE.h TI.h (by omega) (by rw [List.length_append, List.length_cons]; omega)) rfl ?_ | (refine VO_bare rfl rfl rfl rfl ?_; refine VO_q (Q_index_own rfl rfl .ownp rfl TE.h TI.h (by omega) (by rw [List.length_append, List.length_cons]; omega)) rfl ?_) | refine VQ_run rfl rfl rfl rfl (Q_index_own rfl rfl .ownp rfl TE.h TI.h (by omega) (by rw [List.length_append, List.length_cons]; omega)) rfl ?_) | (first | refine VO_nil ?_ | refine VQ_nil ?_) | (first | refine V_seq_region ?_ | refine V_seq (V_seq_region ?_) | refine V_seq_draw tmix (by kernel_rfl) ?_ | refine V_seq (V_seq_draw tmix (by kernel_rfl) ?_) | refine V_region ?_ | refine V_draw tmix (by kernel_rfl) ?_))
    refine VR_storeF (v := .i .i64 (kk)) rfl rfl .ownp hpl rfl rfl TI.h (by repeat constructor) .ownp (by repeat constructor) ?_
    have ht1 := markText_all (kk + 1) (by omega) (by omega)
    repeat (first | refine VO_d ?_ | refine VQ_d ?_ | (first | refine VO_q (Q_index_own rfl rfl .ownp rfl TE.h TI.h (by omega) (by rw [List.length_append, List.length_cons]; omega)) rfl ?_ | refine VQ_q (Q_index_own rfl rfl .ownp rfl TE.h TI.h (by omega) (by rw [List.length_append, List.length_cons]; omega)) rfl ?_ | (refine VO_bare rfl rfl rfl rfl ?_; refine VO_q (Q_index_own rfl rfl .ownp rfl TE.h TI.h (by omega) (by rw [List.length_append, List.length_cons]; omega)) rfl ?_) | refine VQ_run rfl rfl rfl rfl (Q_index_own rfl rfl .ownp rfl TE.h TI.h (by omega) (by rw [List.length_append, List.length_cons]; omega)) rfl ?_) | (first | refine VO_q (Q_call rfl ht1 (by (repeat (first | exact trivial | exact rfl | exact ⟨_, rfl⟩ | refine And.intro ?_ ?_)); first | done | fail)) rfl ?_ | refine VQ_q (Q_call rfl ht1 (by (repeat (first | exact trivial | exact rfl | exact ⟨_, rfl⟩ | refine And.intro ?_ ?_)); first | done | fail)) rfl ?_ | (refine VO_bare rfl rfl rfl rfl ?_; refine VO_q (Q_call rfl ht1 (by (repeat (first | exact trivial | exact rfl | exact ⟨_, rfl⟩ | refine And.intro ?_ ?_)); first | done | fail)) rfl ?_) | refine VQ_run rfl rfl rfl rfl (Q_call rfl ht1 (by (repeat (first | exact trivial | exact rfl | exact ⟨_, rfl⟩ | refine And.intro ?_ ?_)); first | done | fail)) rfl ?_) | (first | refine VO_nil ?_ | refine VQ_nil ?_) | (first | refine V_seq_region ?_ | refine V_seq (V_seq_region ?_) | refine V_seq_draw tmix (by kernel_rfl) ?_ | refine V_seq (V_seq_draw tmix (by kernel_rfl) ?_) | refine V_region ?_ | refine V_draw tmix (by kernel_rfl) ?_))
    refine VR_storeF (v := .s (txt (kk + 1))) rfl rfl .ownp hpl rfl rfl TI.h (by repeat constructor) .ownp (by repeat constructor) ?_
    have hm2 := ih0 a_0_0 a_0_1 a_0_2 a_1_0 a_1_1 a_1_2 a_2 hmem (kk + 1 + 1) (by omega) (by simp only [U.lf]; omega)
    change MSpec _ _ _ _ (.sl 3 (U.mks a_0_2 (kk + 1 + 1)).1) (U.mks a_0_2 (kk + 1 + 1)).2 at hm2
    have hs2 := mks_snd a_0_2 (kk + 1 + 1)
    repeat (first | refine VO_d ?_ | refine VQ_d ?_ | (first | refine VO_q (Q_index_own rfl rfl .ownp rfl TE.h TI.h (by omega) (by rw [List.length_append, List.length_cons]; omega)) rfl ?_ | refine VQ_q (Q_index_own rfl rfl .ownp rfl TE.h TI.h (by omega) (by rw [List.length_append, List.length_cons]; omega)) rfl ?_ | (refine VO_bare rfl rfl rfl rfl ?_; refine VO_q (Q_index_own rfl rfl .ownp rfl TE.h TI.h (by omega) (by rw [List.length_append, List.length_cons]; omega)) rfl ?_) | refine VQ_run rfl rfl rfl rfl (Q_index_own rfl rfl .ownp rfl TE.h TI.h (by omega) (by rw [List.length_append, List.length_cons]; omega)) rfl ?_) | (first | refine VO_nil ?_ | refine VQ_nil ?_) | (first | refine V_seq_region ?_ | refine V_seq (V_seq_region ?_) | refine V_seq_draw tmix (by kernel_rfl) ?_ | refine V_seq (V_seq_draw tmix (by kernel_rfl) ?_) | refine V_region ?_ | refine V_draw tmix (by kernel_rfl) ?_))
    refine VR_markcall hm2 rfl rfl .ownp hpl TI.h (by repeat constructor) rfl rfl (by simp) .ownp (by repeat constructor) rfl rfl rfl (by decide) ?_
    repeat (first | refine VO_d ?_ | refine VQ_d ?_ | (first | refine VO_q (Q_index_own rfl rfl .ownp rfl TE.h TI.h (by omega) (by rw [List.length_append, List.length_cons]; omega)) rfl ?_ | refine VQ_q (Q_index_own rfl rfl .ownp rfl TE.h TI.h (by omega) (by rw [List.length_append, List.length_cons]; omega)) rfl ?_ | (refine VO_bare rfl rfl rfl rfl ?_; refine VO_q (Q_index_own rfl rfl .ownp rfl TE.h TI.h (by omega) (by rw [List.length_append, List.length_cons]; omega)) rfl ?_) | refine VQ_run rfl rfl rfl rfl (Q_index_own rfl rfl .ownp rfl TE.h TI.h (by omega) (by rw [List.length_append, List.length_cons]; omega)) rfl ?_) | (first | refine VO_nil ?_ | refine VQ_nil ?_) | (first | refine V_seq_region ?_ | refine V_seq (V_seq_region ?_) | refine V_seq_draw tmix (by kernel_rfl) ?_ | refine V_seq (V_seq_draw tmix (by kernel_rfl) ?_) | refine V_region ?_ | refine V_draw tmix (by kernel_rfl) ?_))
    refine VR_storeF (v := .i .i64 ((U.mks a_0_2 (kk + 1 + 1)).2)) rfl rfl .ownp hpl rfl rfl TI.h (by repeat constructor) .ownp (by repeat constructor) ?_
    have ht4 := markText_all ((U.mks a_0_2 (kk + 1 + 1)).2 + 1) (by omega) (by omega)
    repeat (first | refine VO_d ?_ | refine VQ_d ?_ | (first | refine VO_q (Q_index_own rfl rfl .ownp rfl TE.h TI.h (by omega) (by rw [List.length_append, List.length_cons]; omega)) rfl ?_ | refine VQ_q (Q_index_own rfl rfl .ownp rfl TE.h TI.h (by omega) (by rw [List.length_append, List.length_cons]; omega)) rfl ?_ | (refine VO_bare rfl rfl rfl rfl ?_; refine VO_q (Q_index_own rfl rfl .ownp rfl TE.h TI.h (by omega) (by rw [List.length_append, List.length_cons]; omega)) rfl ?_) | refine VQ_run rfl rfl rfl rfl (Q_index_own rfl rfl .ownp rfl TE.h TI.h (by omega) (by rw [List.length_append, List.length_cons]; omega)) rfl ?_) | (first | refine VO_q (Q_call rfl ht4 (by (repeat (first | exact trivial | exact rfl | exact ⟨_, rfl⟩ | refine And.intro ?_ ?_)); first | done | fail)) rfl ?_ | refine VQ_q (Q_call rfl ht4 (by (repeat (first | exact trivial | exact rfl | exact ⟨_, rfl⟩ | refine And.intro ?_ ?_)); first | done | fail)) rfl ?_ | (refine VO_bare rfl rfl rfl rfl ?_; refine VO_q (Q_call rfl ht4 (by (repeat (first | exact trivial | exact rfl | exact ⟨_, rfl⟩ | refine And.intro ?_ ?_)); first | done | fail)) rfl ?_) | refine VQ_run rfl rfl rfl rfl (Q_call rfl ht4 (by (repeat (first | exact trivial | exact rfl | exact ⟨_, rfl⟩ | refine And.intro ?_ ?_)); first | done | fail)) rfl ?_) | (first | refine VO_nil ?_ | refine VQ_nil ?_) | (first | refine V_seq_region ?_ | refine V_seq (V_seq_region ?_) | refine V_seq_draw tmix (by kernel_rfl) ?_ | refine V_seq (V_seq_draw tmix (by kernel_rfl) ?_) | refine V_region ?_ | refine V_draw tmix (by kernel_rfl) ?_))
    refine VR_storeF (v := .s (txt ((U.mks a_0_2 (kk + 1 + 1)).2 + 1))) rfl rfl .ownp hpl rfl rfl TI.h (by repeat constructor) .ownp (by repeat constructor) ?_
    have hm5 := ih1 a_0_0 a_0_1 a_0_2 a_1_0 a_1_1 a_1_2 a_2 hmem ((U.mks a_0_2 (kk + 1 + 1)).2 + 1 + 1) (by omega) (by simp only [U.lf]; omega)
    change MSpec _ _ _ _ (.sl 3 (U.mks a_1_2 ((U.mks a_0_2 (kk + 1 + 1)).2 + 1 + 1)).1) (U.mks a_1_2 ((U.mks a_0_2 (kk + 1 + 1)).2 + 1 + 1)).2 at hm5
    have hs5 := mks_snd a_1_2 ((U.mks a_0_2 (kk + 1 + 1)).2 + 1 + 1)
    repeat (first | refine VO_d ?_ | refine VQ_d ?_ | (first | refine VO_q (Q_index_own rfl rfl .ownp rfl TE.h TI.h (by omega) (by rw [List.length_append, List.length_cons]; omega)) rfl ?_ | refine VQ_q (Q_index_own rfl rfl .ownp rfl TE.h TI.h (by omega) (by rw [List.length_append, List.length_cons]; omega)) rfl ?_ | (refine VO_bare rfl rfl rfl rfl ?_; refine VO_q (Q_index_own rfl rfl .ownp rfl TE.h TI.h (by omega) (by rw [List.length_append, List.length_cons]; omega)) rfl ?_) | refine VQ_run rfl rfl rfl rfl (Q_index_own rfl rfl .ownp rfl TE.h TI.h (by omega) (by rw [List.length_append, List.length_cons]; omega)) rfl ?_) | (first | refine VO_nil ?_ | refine VQ_nil ?_) | (first | refine V_seq_region ?_ | refine V_seq (V_seq_region ?_) | refine V_seq_draw tmix (by kernel_rfl) ?_ | refine V_seq (V_seq_draw tmix (by kernel_rfl) ?_) | refine V_region ?_ | refine V_draw tmix (by kernel_rfl) ?_))
    refine VR_markcall hm5 rfl rfl .ownp hpl TI.h (by repeat constructor) rfl rfl (by simp) .ownp (by repeat constructor) rfl rfl rfl (by decide) ?_
    repeat (first | refine VO_d ?_ | refine VQ_d ?_ | (first | refine VO_q (Q_index_own rfl rfl .ownp rfl TE.h TI.h (by omega) (by rw [List.length_append, List.length_cons]; omega)) rfl ?_ | refine VQ_q (Q_index_own rfl rfl .ownp rfl TE.h TI.h (by omega) (by rw [List.length_append, List.length_cons]; omega)) rfl ?_ | (refine VO_bare rfl rfl rfl rfl ?_; refine VO_q (Q_index_own rfl rfl .ownp rfl TE.h TI.h (by omega) (by rw [List.length_append, List.length_cons]; omega)) rfl ?_) | refine VQ_run rfl rfl rfl rfl (Q_index_own rfl rfl .ownp rfl TE.h TI.h (by omega) (by rw [List.length_append, List.length_cons]; omega)) rfl ?_) | (first | refine VO_nil ?_ | refine VQ_nil ?_) | (first | refine V_seq_region ?_ | refine V_seq (V_seq_region ?_) | refine V_seq_draw tmix (by kernel_rfl) ?_ | refine V_seq (V_seq_draw tmix (by kernel_rfl) ?_) | refine V_region ?_ | refine V_draw tmix (by kernel_rfl) ?_))
    refine VR_storeF (v := .i .i64 ((U.mks a_1_2 ((U.mks a_0_2 (kk + 1 + 1)).2 + 1 + 1)).2)) rfl rfl .ownp hpl rfl rfl TI.h (by repeat constructor) .ownp (by repeat constructor) ?_
    repeat (first | refine VO_d ?_ | refine VQ_d ?_  | (first | refine VO_nil ?_ | refine VQ_nil ?_) | (first | refine V_seq_region ?_ | refine V_seq (V_seq_region ?_) | refine V_seq_draw tmix (by kernel_rfl) ?_ | refine V_seq (V_seq_draw tmix (by kernel_rfl) ?_) | refine V_region ?_ | refine V_draw tmix (by kernel_rfl) ?_))
    refine ⟨i + 1, by omega, by omega, ⟨rfl, ⟨⟨rfl, rfl⟩, ⟨?_, rfl⟩, ⟨rfl, rfl⟩, trivial⟩, ⟨[], ?_⟩, rfl⟩⟩
    · rw [hn2]; rfl
    · rw [hn1, hpost, List.append_assoc]; rfl
  · refine V_exit ?_
    simp only [decide_eq_false_iff_not] at hc2
    rw [hlen] at hc2
    have hkl : i = us.length := by omega
    subst hkl
    show V _ _ _ _ _
    repeat (first | refine VO_d ?_ | refine VQ_d ?_  | (first | refine VO_nil ?_ | refine VQ_nil ?_) | (first | refine V_seq_region ?_ | refine V_seq (V_seq_region ?_) | refine V_seq_draw tmix (by kernel_rfl) ?_ | refine V_seq (V_seq_draw tmix (by kernel_rfl) ?_) | refine V_region ?_ | refine V_draw tmix (by kernel_rfl) ?_))
    refine V_ret ?_
    refine ⟨trivial, ?_, [], ?_⟩
    · show SV.d (.i .i64 (U.mks (us.take us.length) k0).2) = _
      rw [List.take_length]
    · simp only [List.take_length, List.drop_length, List.append_nil]

theorem markEquation_grp (u : U) : (∀ us, u = .sl 7 us → us.length ≤ big → (∀ x ∈ us, wt (.st 22) x) → PMk 43 u) := by
  refine U.ind (M := fun u => (∀ us, u = .sl 7 us → us.length ≤ big → (∀ x ∈ us, wt (.st 22) x) → PMk 43 u)) (fun u ih => ?_) u
  refine ?_
  · rintro us rfl hl hz
    exact markEquationS_step hl hz (fun a_0_0 a_0_1 a_0_2 a_1_0 a_1_1 a_1_2 a_2 ha => by obtain ⟨_, _, _, hx_a, qa_0, qa_1, qa_2⟩ := inv_Equation (hz _ ha); cases hx_a; obtain ⟨_, _, _, hx_a_0, qa_0_0, qa_0_1, qa_0_2⟩ := inv_Type qa_0; cases hx_a_0; obtain ⟨_, _, _, hx_a_1, qa_1_0, qa_1_1, qa_1_2⟩ := inv_Type qa_1; cases hx_a_1; exact markTypeS_all qa_0_2) (fun a_0_0 a_0_1 a_0_2 a_1_0 a_1_1 a_1_2 a_2 ha => by obtain ⟨_, _, _, hx_a, qa_0, qa_1, qa_2⟩ := inv_Equation (hz _ ha); cases hx_a; obtain ⟨_, _, _, hx_a_0, qa_0_0, qa_0_1, qa_0_2⟩ := inv_Type qa_0; cases hx_a_0; obtain ⟨_, _, _, hx_a_1, qa_1_0, qa_1_1, qa_1_2⟩ := inv_Type qa_1; cases hx_a_1; exact markTypeS_all qa_1_2)
theorem markEquationS_all {us : List U} (h : us.length ≤ big ∧ ∀ x ∈ us, wt (.st 22) x) : PMk 43 (.sl 7 us) := (markEquation_grp (.sl 7 us)) us rfl h.1 h.2
set_option maxRecDepth 8000 in
set_option maxHeartbeats 8000000 in
theorem markObligationS_step {us : List U} (hl : us.length ≤ big) (hz : ∀ a ∈ us, wt (.st 23) a) (ih0 : ∀ (a_0_0 : List UInt8) (a_0_1_0 : Int) (a_0_1_1 : List UInt8) (a_0_1_2 : List U) (a_1 : Int), .st [.st [.s a_0_0, .st [.i .i64 a_0_1_0, .s a_0_1_1, .sl 3 a_0_1_2]], .i .i64 a_1] ∈ us → PMk 45 (.sl 3 a_0_1_2)) : PMk 44 (.sl 5 us) := by
  intro k0 hk0 hk1
  have hlf : (U.sl 5 us).lf = U.lfs us := rfl
  rw [hlf] at hk1
  rw [big_eq] at hl
  show MSpec _ _ _ _ (.sl 5 (U.mks us k0).1) (U.mks us k0).2
  refine MSpec_intro (fun hv e => [.ownp (hv 0) (e 0) 5 us]) (fun hv e => [.ownp (hv 0) (e 0) 5 (U.mks us k0).1]) Tryd.func44 rfl (by kernel_rfl) rfl rfl (fun _ _ => .sl) (fun _ _ => .sl) rfl rfl fun A hv e _ => ?_
  repeat (first | refine VO_d ?_ | refine VQ_d ?_  | (first | refine VO_nil ?_ | refine VQ_nil ?_) | (first | refine V_seq_region ?_ | refine V_seq (V_seq_region ?_) | refine V_seq_draw tmix (by kernel_rfl) ?_ | refine V_seq (V_seq_draw tmix (by kernel_rfl) ?_) | refine V_region ?_ | refine V_draw tmix (by kernel_rfl) ?_))
  refine V_block ?_
  refine V_loop (α := Nat)
    (fun i => ⟨[(0, .sl 0 0), (1, .d (.i .i64 (U.mks (us.take i) k0).2)), (5, .d (.i .i64 i))], [.ownp (hv 0) (e 0) 5 ((U.mks (us.take i) k0).1 ++ us.drop i)], Tryd.f44.ntmps⟩)
    (fun i => i ≤ us.length)
    (fun i => us.length - i) 0 ⟨rfl, ⟨⟨rfl, rfl⟩, ⟨rfl, rfl⟩, ⟨rfl, rfl⟩, trivial⟩, ⟨[], rfl⟩, rfl⟩ (by simp) ?_
  intro i hi
  have hlen : ((U.mks (us.take i) k0).1 ++ us.drop i).length = us.length := by simp [mks_len]; omega
  repeat (first | refine VO_d ?_ | refine VQ_d ?_  | (first | refine VO_nil ?_ | refine VQ_nil ?_) | (first | refine V_seq_region ?_ | refine V_seq (V_seq_region ?_) | refine V_seq_draw tmix (by kernel_rfl) ?_ | refine V_seq (V_seq_draw tmix (by kernel_rfl) ?_) | refine V_region ?_ | refine V_draw tmix (by kernel_rfl) ?_))
  (first | refine V_cond rfl (fun hc2 => ?_) (fun hc2 => ?_) | refine V_seq (V_cond rfl (fun hc2 => ?_) (fun hc2 => ?_)))
  · refine V_skip ?_
    simp only [decide_eq_true_eq] at hc2
    rw [hlen] at hc2
    have hil : i < us.length := by omega
    obtain ⟨a, hget⟩ : ∃ a, us[i]? = some a := ⟨_, List.getElem?_eq_getElem hil⟩
    have hmem := List.mem_of_getElem? hget
    have hdrop := drop_get hget
    obtain ⟨hn1, hn2⟩ := mks_next hget k0
    have hmid := lfs_mid hget
    have hsnd := mks_snd (us.take i) k0
    have hpl : (U.mks (us.take i) k0).1.length = i := by simp [mks_len]; omega
    have hwa := hz a hmem
    obtain ⟨a_0, a_1, rfl, hwa_0, hwa_1⟩ := inv_Obligation hwa
    obtain ⟨a_0_0, a_0_1, rfl, hwa_0_0, hwa_0_1⟩ := inv_Bound hwa_0
    obtain ⟨a_0_1_0, a_0_1_1, a_0_1_2, rfl, hwa_0_1_0, hwa_0_1_1, hwa_0_1_2⟩ := inv_Type hwa_0_1
    have hlfa : ((.st [.st [.s a_0_0, .st [.i .i64 a_0_1_0, .s a_0_1_1, .sl 3 a_0_1_2]], .i .i64 a_1]) : U).lf = 0 + 1 + 1 + 1 + U.lfs a_0_1_2 + 1 := by simp [U.lf, U.lfs] <;> omega
    rw [hlfa] at hmid
    refine V_cast [.ownp (hv 0) (e 0) 5 ((U.mks (us.take i) k0).1 ++ (.st [.st [.s a_0_0, .st [.i .i64 a_0_1_0, .s a_0_1_1, .sl 3 a_0_1_2]], .i .i64 a_1]) :: us.drop (i + 1))] (by rw [hdrop]) ?_
    have hkp : 0 < (U.mks (us.take i) k0).2 := by omega
    have hkb : (U.mks (us.take i) k0).2 + (0 + 1 + 1 + 1 + U.lfs a_0_1_2 + 1 : Nat) ≤ 4611686018427387904 := by omega
    have hlen' : ((U.mks (us.take i) k0).1 ++ (.st [.st [.s a_0_0, .st [.i .i64 a_0_1_0, .s a_0_1_1, .sl 3 a_0_1_2]], .i .i64 a_1]) :: us.drop (i + 1)).length = us.length := by rw [← hdrop]; exact hlen
    clear hdrop hsnd hlfa hmid hlen
    generalize (U.mks (us.take i) k0).1 = pre at hn1 hpl hlen' ⊢
    generalize (U.mks (us.take i) k0).2 = kk at hn1 hn2 hkp hkb ⊢
    generalize hpost : us.drop (i + 1) = post at hlen' ⊢
    rw [List.length_append, List.length_cons] at hlen'
    refine V_seq (V_block ?_)
    have ht0 := markText_all (kk) (by omega) (by omega)
    repeat (first | refine VO_d ?_ | refine VQ_d ?_ | (first | refine VO_q (Q_index_own rfl rfl .ownp rfl TE.h TI.h (by omega) (by rw [List.length_append, List.length_cons]; omega)) rfl ?_ | refine VQ_q (Q_index_own rfl rfl .ownp rfl TE.h TI.h (by omega) (by rw [List.length_append, List.length_cons]; omega)) rfl ?_ | (refine VO_bare rfl rfl rfl rfl ?_; refine VO_q (Q_index_own rfl rfl .ownp rfl TE.h TI.h (by omega) (by rw [List.length_append, List.length_cons]; omega)) rfl ?_) | refine VQ_run rfl rfl rfl rfl (Q_index_own rfl rfl .ownp rfl TE.h TI.h (by omega) (by rw [List.length_append, List.length_cons]; omega)) rfl ?_) | (first | refine VO_q (Q_call rfl ht0 (by (repeat (first | exact trivial | exact rfl | exact ⟨_, rfl⟩ | refine And.intro ?_ ?_)); first | done | fail)) rfl ?_ | refine VQ_q (Q_call rfl ht0 (by (repeat (first | exact trivial | exact rfl | exact ⟨_, rfl⟩ | refine And.intro ?_ ?_)); first | done | fail)) rfl ?_ | (refine VO_bare rfl rfl rfl rfl ?_; refine VO_q (Q_call rfl ht0 (by (repeat (first | exact trivial | exact rfl | exact ⟨_, rfl⟩ | refine And.intro ?_ ?_)); first | done | fail)) rfl ?_) | refine VQ_run rfl rfl rfl rfl (Q_call rfl ht0 (by (repeat (first | exact trivial | exact rfl | exact ⟨_, rfl⟩ | refine And.intro ?_ ?_)); first | done | fail)) rfl ?_) | (first | refine VO_nil ?_ | refine VQ_nil ?_) | (first | refine V_seq_region ?_ | refine V_seq (V_seq_region ?_) | refine V_seq_draw tmix (by kernel_rfl) ?_ | refine V_seq (V_seq_draw tmix (by kernel_rfl) ?_) | refine V_region ?_ | refine V_draw tmix (by kernel_rfl) ?_))
    refine VR_storeF (v := .s (txt (kk))) rfl rfl .ownp hpl rfl rfl TI.h (by repeat constructor) .ownp (by repeat constructor) ?_
    repeat (first | refine VO_d ?_ | refine VQ_d ?_ | (first | refine VO_q (Q_index_own rfl rfl .ownp rfl TE.h TI.h (by omega) (by rw [List.length_append, List.length_cons]; omega)) rfl ?_ | refine VQ_q (Q_index_own rfl rfl .ownp rfl TE.h TI.h (by omega) (by rw [List.length_append, List.length_cons]; omega)) rfl ?_ | (refine VO_bare rfl rfl rfl rfl ?_; refine VO_q (Q_index_own rfl rfl .ownp rfl TE.h TI.h (by omega) (by rw [List.length_append, List.length_cons]; omega)) rfl ?_) | refine VQ_run rfl rfl rfl rfl (Q_index_own rfl rfl .ownp rfl TE.h TI.h (by omega) (by rw [List.length_append, List.length_cons]; omega)) rfl ?_) | (first | refine VO_nil ?_ | refine VQ_nil ?_) | (first | refine V_seq_region ?_ | refine V_seq (V_seq_region ?_) | refine V_seq_draw tmix (by kernel_rfl) ?_ | refine V_seq (V_seq_draw tmix (by kernel_rfl) ?_) | refine V_region ?_ | refine V_draw tmix (by kernel_rfl) ?_))
    refine VR_storeF (v := .i .i64 (kk + 1)) rfl rfl .ownp hpl rfl rfl TI.h (by repeat constructor) .ownp (by repeat constructor) ?_
    have ht2 := markText_all (kk + 1 + 1) (by omega) (by omega)
    repeat (first | refine VO_d ?_ | refine VQ_d ?_ | (first | refine VO_q (Q_index_own rfl rfl .ownp rfl TE.h TI.h (by omega) (by rw [List.length_append, List.length_cons]; omega)) rfl ?_ | refine VQ_q (Q_index_own rfl rfl .ownp rfl TE.h TI.h (by omega) (by rw [List.length_append, List.length_cons]; omega)) rfl ?_ | (refine VO_bare rfl rfl rfl rfl ?_; refine VO_q (Q_index_own rfl rfl .ownp rfl TE.h TI.h (by omega) (by rw [List.length_append, List.length_cons]; omega)) rfl ?_) | refine VQ_run rfl rfl rfl rfl (Q_index_own rfl rfl .ownp rfl TE.h TI.h (by omega) (by rw [List.length_append, List.length_cons]; omega)) rfl ?_) | (first | refine VO_q (Q_call rfl ht2 (by (repeat (first | exact trivial | exact rfl | exact ⟨_, rfl⟩ | refine And.intro ?_ ?_)); first | done | fail)) rfl ?_ | refine VQ_q (Q_call rfl ht2 (by (repeat (first | exact trivial | exact rfl | exact ⟨_, rfl⟩ | refine And.intro ?_ ?_)); first | done | fail)) rfl ?_ | (refine VO_bare rfl rfl rfl rfl ?_; refine VO_q (Q_call rfl ht2 (by (repeat (first | exact trivial | exact rfl | exact ⟨_, rfl⟩ | refine And.intro ?_ ?_)); first | done | fail)) rfl ?_) | refine VQ_run rfl rfl rfl rfl (Q_call rfl ht2 (by (repeat (first | exact trivial | exact rfl | exact ⟨_, rfl⟩ | refine And.intro ?_ ?_)); first | done | fail)) rfl ?_) | (first | refine VO_nil ?_ | refine VQ_nil ?_) | (first | refine V_seq_region ?_ | refine V_seq (V_seq_region ?_) | refine V_seq_draw tmix (by kernel_rfl) ?_ | refine V_seq (V_seq_draw tmix (by kernel_rfl) ?_) | refine V_region ?_ | refine V_draw tmix (by kernel_rfl) ?_))
    refine VR_storeF (v := .s (txt (kk + 1 + 1))) rfl rfl .ownp hpl rfl rfl TI.h (by repeat constructor) .ownp (by repeat constructor) ?_
    have hm3 := ih0 a_0_0 a_0_1_0 a_0_1_1 a_0_1_2 a_1 hmem (kk + 1 + 1 + 1) (by omega) (by simp only [U.lf]; omega)
    change MSpec _ _ _ _ (.sl 3 (U.mks a_0_1_2 (kk + 1 + 1 + 1)).1) (U.mks a_0_1_2 (kk + 1 + 1 + 1)).2 at hm3
    have hs3 := mks_snd a_0_1_2 (kk + 1 + 1 + 1)
    repeat (first | refine VO_d ?_ | refine VQ_d ?_ | (first | refine VO_q (Q_index_own rfl rfl .ownp rfl TE.h TI.h (by omega) (by rw [List.length_append, List.length_cons]; omega)) rfl ?_ | refine VQ_q (Q_index_own rfl rfl .ownp rfl TE.h TI.h (by omega) (by rw [List.length_append, List.length_cons]; omega)) rfl ?_ | (refine VO_bare rfl rfl rfl rfl ?_; refine VO_q (Q_index_own rfl rfl .ownp rfl TE.h TI.h (by omega) (by rw [List.length_append, List.length_cons]; omega)) rfl ?_) | refine VQ_run rfl rfl rfl rfl (Q_index_own rfl rfl .ownp rfl TE.h TI.h (by omega) (by rw [List.length_append, List.length_cons]; omega)) rfl ?_) | (first | refine VO_nil ?_ | refine VQ_nil ?_) | (first | refine V_seq_region ?_ | refine V_seq (V_seq_region ?_) | refine V_seq_draw tmix (by kernel_rfl) ?_ | refine V_seq (V_seq_draw tmix (by kernel_rfl) ?_) | refine V_region ?_ | refine V_draw tmix (by kernel_rfl) ?_))
    refine VR_markcall hm3 rfl rfl .ownp hpl TI.h (by repeat constructor) rfl rfl (by simp) .ownp (by repeat constructor) rfl rfl rfl (by decide) ?_
    repeat (first | refine VO_d ?_ | refine VQ_d ?_ | (first | refine VO_q (Q_index_own rfl rfl .ownp rfl TE.h TI.h (by omega) (by rw [List.length_append, List.length_cons]; omega)) rfl ?_ | refine VQ_q (Q_index_own rfl rfl .ownp rfl TE.h TI.h (by omega) (by rw [List.length_append, List.length_cons]; omega)) rfl ?_ | (refine VO_bare rfl rfl rfl rfl ?_; refine VO_q (Q_index_own rfl rfl .ownp rfl TE.h TI.h (by omega) (by rw [List.length_append, List.length_cons]; omega)) rfl ?_) | refine VQ_run rfl rfl rfl rfl (Q_index_own rfl rfl .ownp rfl TE.h TI.h (by omega) (by rw [List.length_append, List.length_cons]; omega)) rfl ?_) | (first | refine VO_nil ?_ | refine VQ_nil ?_) | (first | refine V_seq_region ?_ | refine V_seq (V_seq_region ?_) | refine V_seq_draw tmix (by kernel_rfl) ?_ | refine V_seq (V_seq_draw tmix (by kernel_rfl) ?_) | refine V_region ?_ | refine V_draw tmix (by kernel_rfl) ?_))
    refine VR_storeF (v := .i .i64 ((U.mks a_0_1_2 (kk + 1 + 1 + 1)).2)) rfl rfl .ownp hpl rfl rfl TI.h (by repeat constructor) .ownp (by repeat constructor) ?_
    repeat (first | refine VO_d ?_ | refine VQ_d ?_  | (first | refine VO_nil ?_ | refine VQ_nil ?_) | (first | refine V_seq_region ?_ | refine V_seq (V_seq_region ?_) | refine V_seq_draw tmix (by kernel_rfl) ?_ | refine V_seq (V_seq_draw tmix (by kernel_rfl) ?_) | refine V_region ?_ | refine V_draw tmix (by kernel_rfl) ?_))
    refine ⟨i + 1, by omega, by omega, ⟨rfl, ⟨⟨rfl, rfl⟩, ⟨?_, rfl⟩, ⟨rfl, rfl⟩, trivial⟩, ⟨[], ?_⟩, rfl⟩⟩
    · rw [hn2]; rfl
    · rw [hn1, hpost, List.append_assoc]; rfl
  · refine V_exit ?_
    simp only [decide_eq_false_iff_not] at hc2
    rw [hlen] at hc2
    have hkl : i = us.length := by omega
    subst hkl
    show V _ _ _ _ _
    repeat (first | refine VO_d ?_ | refine VQ_d ?_  | (first | refine VO_nil ?_ | refine VQ_nil ?_) | (first | refine V_seq_region ?_ | refine V_seq (V_seq_region ?_) | refine V_seq_draw tmix (by kernel_rfl) ?_ | refine V_seq (V_seq_draw tmix (by kernel_rfl) ?_) | refine V_region ?_ | refine V_draw tmix (by kernel_rfl) ?_))
    refine V_ret ?_
    refine ⟨trivial, ?_, [], ?_⟩
    · show SV.d (.i .i64 (U.mks (us.take us.length) k0).2) = _
      rw [List.take_length]
    · simp only [List.take_length, List.drop_length, List.append_nil]

theorem markObligation_grp (u : U) : (∀ us, u = .sl 5 us → us.length ≤ big → (∀ x ∈ us, wt (.st 23) x) → PMk 44 u) := by
  refine U.ind (M := fun u => (∀ us, u = .sl 5 us → us.length ≤ big → (∀ x ∈ us, wt (.st 23) x) → PMk 44 u)) (fun u ih => ?_) u
  refine ?_
  · rintro us rfl hl hz
    exact markObligationS_step hl hz (fun a_0_0 a_0_1_0 a_0_1_1 a_0_1_2 a_1 ha => by obtain ⟨_, _, hx_a, qa_0, qa_1⟩ := inv_Obligation (hz _ ha); cases hx_a; obtain ⟨_, _, hx_a_0, qa_0_0, qa_0_1⟩ := inv_Bound qa_0; cases hx_a_0; obtain ⟨_, _, _, hx_a_0_1, qa_0_1_0, qa_0_1_1, qa_0_1_2⟩ := inv_Type qa_0_1; cases hx_a_0_1; exact markTypeS_all qa_0_1_2)
theorem markObligationS_all {us : List U} (h : us.length ≤ big ∧ ∀ x ∈ us, wt (.st 23) x) : PMk 44 (.sl 5 us) := (markObligation_grp (.sl 5 us)) us rfl h.1 h.2
set_option maxRecDepth 8000 in
set_option maxHeartbeats 8000000 in
theorem markInferState_step {f0 : Int} {f1 : Int} {f2 : Int} {f3 : List U} {f4 : List U} {f5 : List U} {f6 : Int} {f7 : Int} (h3 : PMk 42 (.sl 4 f3)) (h4 : PMk 43 (.sl 7 f4)) (h5 : PMk 44 (.sl 5 f5)) : PMk 12 (.st [.i .i64 f0, .i .i64 f1, .i .i64 f2, .sl 4 f3, .sl 7 f4, .sl 5 f5, .i .i64 f6, .i .i64 f7]) := by
  intro k0 hk0 hk1
  have hlf : ((.st [.i .i64 f0, .i .i64 f1, .i .i64 f2, .sl 4 f3, .sl 7 f4, .sl 5 f5, .i .i64 f6, .i .i64 f7]) : U).lf = 0 + 1 + 1 + 1 + U.lfs f3 + U.lfs f4 + U.lfs f5 + 1 + 1 := by simp [U.lf, U.lfs] <;> omega
  rw [hlf] at hk1
  show MSpec _ _ _ _ (.st [.i .i64 f0, .i .i64 f1, .i .i64 f2, .sl 4 (U.mks f3 (k0)).1, .sl 7 (U.mks f4 ((U.mks f3 (k0)).2)).1, .sl 5 (U.mks f5 ((U.mks f4 ((U.mks f3 (k0)).2)).2)).1, .i .i64 f6, .i .i64 f7]) ((U.mks f5 ((U.mks f4 ((U.mks f3 (k0)).2)).2)).2)
  refine MSpec_intro (fun hv e => [.ownp (hv 0) (e 0) 4 f3, .ownp (hv 1) (e 1) 7 f4, .ownp (hv 2) (e 2) 5 f5]) (fun hv e => [.ownp (hv 0) (e 0) 4 (U.mks f3 (k0)).1, .ownp (hv 1) (e 1) 7 (U.mks f4 ((U.mks f3 (k0)).2)).1, .ownp (hv 2) (e 2) 5 (U.mks f5 ((U.mks f4 ((U.mks f3 (k0)).2)).2)).1]) Tryd.func12 rfl (by kernel_rfl) rfl rfl (fun _ _ => by repeat constructor) (fun _ _ => by repeat constructor) rfl rfl fun A hv e _ => ?_
  have hm3 := h3 (k0) (by omega) (by simp only [U.lf, U.lfs]; omega)
  have hs_f3 := mks_snd f3 (k0)
  repeat (first | refine VO_d ?_ | refine VQ_d ?_  | (first | refine VO_nil ?_ | refine VQ_nil ?_) | (first | refine V_seq_region ?_ | refine V_seq (V_seq_region ?_) | refine V_seq_draw tmix (by kernel_rfl) ?_ | refine V_seq (V_seq_draw tmix (by kernel_rfl) ?_) | refine V_region ?_ | refine V_draw tmix (by kernel_rfl) ?_))
  refine VO_callM rfl hm3 rfl rfl (by repeat (first | exact rfl | constructor)) rfl (by repeat constructor) rfl ?_
  have hm4 := h4 ((U.mks f3 (k0)).2) (by omega) (by simp only [U.lf, U.lfs]; omega)
  have hs_f4 := mks_snd f4 ((U.mks f3 (k0)).2)
  repeat (first | refine VO_d ?_ | refine VQ_d ?_  | (first | refine VO_nil ?_ | refine VQ_nil ?_) | (first | refine V_seq_region ?_ | refine V_seq (V_seq_region ?_) | refine V_seq_draw tmix (by kernel_rfl) ?_ | refine V_seq (V_seq_draw tmix (by kernel_rfl) ?_) | refine V_region ?_ | refine V_draw tmix (by kernel_rfl) ?_))
  refine VO_callM rfl hm4 rfl rfl (by repeat (first | exact rfl | constructor)) rfl (by repeat constructor) rfl ?_
  have hm5 := h5 ((U.mks f4 ((U.mks f3 (k0)).2)).2) (by omega) (by simp only [U.lf, U.lfs]; omega)
  have hs_f5 := mks_snd f5 ((U.mks f4 ((U.mks f3 (k0)).2)).2)
  repeat (first | refine VO_d ?_ | refine VQ_d ?_  | (first | refine VO_nil ?_ | refine VQ_nil ?_) | (first | refine V_seq_region ?_ | refine V_seq (V_seq_region ?_) | refine V_seq_draw tmix (by kernel_rfl) ?_ | refine V_seq (V_seq_draw tmix (by kernel_rfl) ?_) | refine V_region ?_ | refine V_draw tmix (by kernel_rfl) ?_))
  refine VO_callM rfl hm5 rfl rfl (by repeat (first | exact rfl | constructor)) rfl (by repeat constructor) rfl ?_
  repeat (first | refine VO_d ?_ | refine VQ_d ?_  | (first | refine VO_nil ?_ | refine VQ_nil ?_) | (first | refine V_seq_region ?_ | refine V_seq (V_seq_region ?_) | refine V_seq_draw tmix (by kernel_rfl) ?_ | refine V_seq (V_seq_draw tmix (by kernel_rfl) ?_) | refine V_region ?_ | refine V_draw tmix (by kernel_rfl) ?_))
  refine V_ret ?_
  exact ⟨trivial, rfl, _, rfl⟩

theorem markInferState_all {u : U} (h : wt (.st 24) u) : PMk 12 u := by
  obtain ⟨f0, f1, f2, f3, f4, f5, f6, f7, rfl, p0, p1, p2, p3, p4, p5, p6, p7⟩ := inv_InferState h
  exact markInferState_step (markBindingS_all p3) (markEquationS_all p4) (markObligationS_all p5)

set_option maxRecDepth 8000 in
set_option maxHeartbeats 8000000 in
theorem heldTypeS_step {us : List U} (hl : us.length ≤ big) (hz : ∀ a ∈ us, wt (.st 1) a) (ih0 : ∀ (a_0 : Int) (a_1 : List UInt8) (a_2 : List U), .st [.i .i64 a_0, .s a_1, .sl 3 a_2] ∈ us → PHe 49 (.sl 3 a_2)) : PHe 49 (.sl 3 us) := by
  intro k0 hk0 hk1
  have hlf : (U.sl 3 us).lf = U.lfs us := rfl
  rw [hlf] at hk1
  rw [big_eq] at hl
  show SpecP _ _ [.d (.sl 3 (U.mks us k0).1), .d (.i .i64 k0)] [.i .i64 (U.mks us k0).2]
  obtain ⟨ms, hms⟩ : ∃ ms, (U.mks us k0).1 = ms := ⟨_, rfl⟩
  have hml : ms.length = us.length := by rw [← hms, mks_len]
  have hel : ∀ (i : Nat) (a : U), us[i]? = some a → ms[i]? = some (a.mk (U.mks (us.take i) k0).2).1 := fun i a h => by rw [← hms]; exact mks_get h k0
  rw [hms]
  refine SpecP_intro Tryd.func49 rfl (by kernel_rfl) rfl fun A _ => ?_
  repeat (first | refine VO_d ?_ | refine VQ_d ?_  | (first | refine VO_nil ?_ | refine VQ_nil ?_) | (first | refine V_seq_region ?_ | refine V_seq (V_seq_region ?_) | refine V_seq_draw tmix (by kernel_rfl) ?_ | refine V_seq (V_seq_draw tmix (by kernel_rfl) ?_) | refine V_region ?_ | refine V_draw tmix (by kernel_rfl) ?_))
  refine V_block ?_
  refine V_loop (α := Nat)
    (fun i => ⟨[(0, .d (.sl 3 ms)), (1, .d (.i .i64 (U.mks (us.take i) k0).2)), (5, .d (.i .i64 i))], [], Tryd.f49.ntmps⟩)
    (fun i => i ≤ us.length)
    (fun i => us.length - i) 0 ⟨rfl, ⟨⟨rfl, rfl⟩, ⟨rfl, rfl⟩, ⟨rfl, rfl⟩, trivial⟩, ⟨[], rfl⟩, rfl⟩ (by simp) ?_
  intro i hi
  repeat (first | refine VO_d ?_ | refine VQ_d ?_  | (first | refine VO_nil ?_ | refine VQ_nil ?_) | (first | refine V_seq_region ?_ | refine V_seq (V_seq_region ?_) | refine V_seq_draw tmix (by kernel_rfl) ?_ | refine V_seq (V_seq_draw tmix (by kernel_rfl) ?_) | refine V_region ?_ | refine V_draw tmix (by kernel_rfl) ?_))
  (first | refine V_cond rfl (fun hc2 => ?_) (fun hc2 => ?_) | refine V_seq (V_cond rfl (fun hc2 => ?_) (fun hc2 => ?_)))
  · refine V_skip ?_
    simp only [decide_eq_true_eq] at hc2
    have hil : i < us.length := by omega
    obtain ⟨a, hget⟩ : ∃ a, us[i]? = some a := ⟨_, List.getElem?_eq_getElem hil⟩
    have hmem := List.mem_of_getElem? hget
    have hnext := (mks_next hget k0).2
    have hmid := lfs_mid hget
    have hsnd := mks_snd (us.take i) k0
    have hge := hel i a hget
    have hwa := hz a hmem
    obtain ⟨a_0, a_1, a_2, rfl, hwa_0, hwa_1, hwa_2⟩ := inv_Type hwa
    have hlfa : ((.st [.i .i64 a_0, .s a_1, .sl 3 a_2]) : U).lf = 0 + 1 + 1 + U.lfs a_2 := by simp [U.lf, U.lfs] <;> omega
    rw [hlfa] at hmid
    have hkp : 0 < (U.mks (us.take i) k0).2 := by omega
    have hkb : (U.mks (us.take i) k0).2 + (0 + 1 + 1 + U.lfs a_2 : Nat) ≤ 4611686018427387904 := by omega
    clear hsnd hlfa hmid
    generalize (U.mks (us.take i) k0).2 = kk at hnext hkp hkb hge ⊢
    have hge : ms[i]? = some (.st [.i .i64 (kk), .s (txt (kk + 1)), .sl 3 (U.mks a_2 (kk + 1 + 1)).1]) := hge
    refine V_seq (V_block ?_)
    repeat (first | refine VO_d ?_ | refine VQ_d ?_ | (first | refine VO_q (Q_index rfl rfl TE.h TI.h (by omega) hge) rfl ?_ | refine VQ_q (Q_index rfl rfl TE.h TI.h (by omega) hge) rfl ?_ | (refine VO_bare rfl rfl rfl rfl ?_; refine VO_q (Q_index rfl rfl TE.h TI.h (by omega) hge) rfl ?_) | refine VQ_run rfl rfl rfl rfl (Q_index rfl rfl TE.h TI.h (by omega) hge) rfl ?_) | (first | refine VO_nil ?_ | refine VQ_nil ?_) | (first | refine V_seq_region ?_ | refine V_seq (V_seq_region ?_) | refine V_seq_draw tmix (by kernel_rfl) ?_ | refine V_seq (V_seq_draw tmix (by kernel_rfl) ?_) | refine V_region ?_ | refine V_draw tmix (by kernel_rfl) ?_))
    (first | refine V_cond rfl (fun hc3 => ?_) (fun hc3 => ?_) | refine V_seq (V_cond rfl (fun hc3 => ?_) (fun hc3 => ?_)))
    · simp at hc3
    refine V_skip ?_
    clear hc3
    have ht1 := markText_all (kk + 1) (by omega) (by omega)
    repeat (first | refine VO_d ?_ | refine VQ_d ?_ | (first | refine VO_q (Q_index rfl rfl TE.h TI.h (by omega) hge) rfl ?_ | refine VQ_q (Q_index rfl rfl TE.h TI.h (by omega) hge) rfl ?_ | (refine VO_bare rfl rfl rfl rfl ?_; refine VO_q (Q_index rfl rfl TE.h TI.h (by omega) hge) rfl ?_) | refine VQ_run rfl rfl rfl rfl (Q_index rfl rfl TE.h TI.h (by omega) hge) rfl ?_) | (first | refine VO_q (Q_call rfl ht1 (by (repeat (first | exact trivial | exact rfl | exact ⟨_, rfl⟩ | refine And.intro ?_ ?_)); first | done | fail)) rfl ?_ | refine VQ_q (Q_call rfl ht1 (by (repeat (first | exact trivial | exact rfl | exact ⟨_, rfl⟩ | refine And.intro ?_ ?_)); first | done | fail)) rfl ?_ | (refine VO_bare rfl rfl rfl rfl ?_; refine VO_q (Q_call rfl ht1 (by (repeat (first | exact trivial | exact rfl | exact ⟨_, rfl⟩ | refine And.intro ?_ ?_)); first | done | fail)) rfl ?_) | refine VQ_run rfl rfl rfl rfl (Q_call rfl ht1 (by (repeat (first | exact trivial | exact rfl | exact ⟨_, rfl⟩ | refine And.intro ?_ ?_)); first | done | fail)) rfl ?_) | (first | refine VO_nil ?_ | refine VQ_nil ?_) | (first | refine V_seq_region ?_ | refine V_seq (V_seq_region ?_) | refine V_seq_draw tmix (by kernel_rfl) ?_ | refine V_seq (V_seq_draw tmix (by kernel_rfl) ?_) | refine V_region ?_ | refine V_draw tmix (by kernel_rfl) ?_))
    (first | refine V_cond rfl (fun hc3 => ?_) (fun hc3 => ?_) | refine V_seq (V_cond rfl (fun hc3 => ?_) (fun hc3 => ?_)))
    · simp at hc3
    refine V_skip ?_
    clear hc3
    have hm2 := ih0 a_0 a_1 a_2 hmem (kk + 1 + 1) (by omega) (by simp only [U.lf]; omega)
    change SpecP _ _ [.d (.sl 3 (U.mks a_2 (kk + 1 + 1)).1), _] [.i .i64 (U.mks a_2 (kk + 1 + 1)).2] at hm2
    have hs2 := mks_snd a_2 (kk + 1 + 1)
    repeat (first | refine VO_d ?_ | refine VQ_d ?_ | (first | refine VO_q (Q_index rfl rfl TE.h TI.h (by omega) hge) rfl ?_ | refine VQ_q (Q_index rfl rfl TE.h TI.h (by omega) hge) rfl ?_ | (refine VO_bare rfl rfl rfl rfl ?_; refine VO_q (Q_index rfl rfl TE.h TI.h (by omega) hge) rfl ?_) | refine VQ_run rfl rfl rfl rfl (Q_index rfl rfl TE.h TI.h (by omega) hge) rfl ?_) | (first | refine VO_q (Q_call rfl hm2 (by (repeat (first | exact trivial | exact rfl | exact ⟨_, rfl⟩ | refine And.intro ?_ ?_)); first | done | fail)) rfl ?_ | refine VQ_q (Q_call rfl hm2 (by (repeat (first | exact trivial | exact rfl | exact ⟨_, rfl⟩ | refine And.intro ?_ ?_)); first | done | fail)) rfl ?_ | (refine VO_bare rfl rfl rfl rfl ?_; refine VO_q (Q_call rfl hm2 (by (repeat (first | exact trivial | exact rfl | exact ⟨_, rfl⟩ | refine And.intro ?_ ?_)); first | done | fail)) rfl ?_) | refine VQ_run rfl rfl rfl rfl (Q_call rfl hm2 (by (repeat (first | exact trivial | exact rfl | exact ⟨_, rfl⟩ | refine And.intro ?_ ?_)); first | done | fail)) rfl ?_) | (first | refine VO_nil ?_ | refine VQ_nil ?_) | (first | refine V_seq_region ?_ | refine V_seq (V_seq_region ?_) | refine V_seq_draw tmix (by kernel_rfl) ?_ | refine V_seq (V_seq_draw tmix (by kernel_rfl) ?_) | refine V_region ?_ | refine V_draw tmix (by kernel_rfl) ?_))
    (first | refine V_cond rfl (fun hc3 => ?_) (fun hc3 => ?_) | refine V_seq (V_cond rfl (fun hc3 => ?_) (fun hc3 => ?_)))
    · exfalso; simp only [decide_eq_true_eq] at hc3; change (U.mks a_2 (kk + 1 + 1)).2 < 0 at hc3; omega
    refine V_skip ?_
    clear hc3
    repeat (first | refine VO_d ?_ | refine VQ_d ?_  | (first | refine VO_nil ?_ | refine VQ_nil ?_) | (first | refine V_seq_region ?_ | refine V_seq (V_seq_region ?_) | refine V_seq_draw tmix (by kernel_rfl) ?_ | refine V_seq (V_seq_draw tmix (by kernel_rfl) ?_) | refine V_region ?_ | refine V_draw tmix (by kernel_rfl) ?_))
    refine ⟨i + 1, by omega, by omega, ⟨rfl, ⟨⟨rfl, rfl⟩, ⟨?_, rfl⟩, ⟨rfl, rfl⟩, trivial⟩, ⟨[], rfl⟩, rfl⟩⟩
    rw [hnext]
    rfl
  · refine V_exit ?_
    simp only [decide_eq_false_iff_not] at hc2
    have hkl : i = us.length := by omega
    subst hkl
    show V _ _ _ _ _
    repeat (first | refine VO_d ?_ | refine VQ_d ?_  | (first | refine VO_nil ?_ | refine VQ_nil ?_) | (first | refine V_seq_region ?_ | refine V_seq (V_seq_region ?_) | refine V_seq_draw tmix (by kernel_rfl) ?_ | refine V_seq (V_seq_draw tmix (by kernel_rfl) ?_) | refine V_region ?_ | refine V_draw tmix (by kernel_rfl) ?_))
    refine V_ret ?_
    refine ⟨trivial, ⟨_, rfl, ?_⟩, trivial⟩
    rw [List.take_length]
    exact rfl

set_option maxRecDepth 8000 in
set_option maxHeartbeats 8000000 in
theorem heldType_step {f0 : Int} {f1 : List UInt8} {f2 : List U} (h2 : PHe 49 (.sl 3 f2)) : PHe 15 (.st [.i .i64 f0, .s f1, .sl 3 f2]) := by
  intro k0 hk0 hk1
  have hlf : ((.st [.i .i64 f0, .s f1, .sl 3 f2]) : U).lf = 0 + 1 + 1 + U.lfs f2 := by simp [U.lf, U.lfs] <;> omega
  rw [hlf] at hk1
  show SpecP _ _ [.d (.st [.i .i64 f0, .s f1, .sl 3 (U.mks f2 (k0)).1]), .d (.i .i64 k0)] [.i .i64 ((U.mks f2 (k0)).2)]
  refine SpecP_intro Tryd.func15 rfl (by kernel_rfl) rfl fun A _ => ?_
  have hm2 := h2 (k0) (by omega) (by simp only [U.lf, U.lfs]; omega)
  have hs_f2 := mks_snd f2 (k0)
  repeat (first | refine VO_d ?_ | refine VQ_d ?_ | (first | refine VO_q (Q_call rfl hm2 (by (repeat (first | exact trivial | exact rfl | exact ⟨_, rfl⟩ | refine And.intro ?_ ?_)); first | done | fail)) rfl ?_ | refine VQ_q (Q_call rfl hm2 (by (repeat (first | exact trivial | exact rfl | exact ⟨_, rfl⟩ | refine And.intro ?_ ?_)); first | done | fail)) rfl ?_ | (refine VO_bare rfl rfl rfl rfl ?_; refine VO_q (Q_call rfl hm2 (by (repeat (first | exact trivial | exact rfl | exact ⟨_, rfl⟩ | refine And.intro ?_ ?_)); first | done | fail)) rfl ?_) | refine VQ_run rfl rfl rfl rfl (Q_call rfl hm2 (by (repeat (first | exact trivial | exact rfl | exact ⟨_, rfl⟩ | refine And.intro ?_ ?_)); first | done | fail)) rfl ?_) | (first | refine VO_nil ?_ | refine VQ_nil ?_) | (first | refine V_seq_region ?_ | refine V_seq (V_seq_region ?_) | refine V_seq_draw tmix (by kernel_rfl) ?_ | refine V_seq (V_seq_draw tmix (by kernel_rfl) ?_) | refine V_region ?_ | refine V_draw tmix (by kernel_rfl) ?_))
  (first | refine V_cond rfl (fun hc3 => ?_) (fun hc3 => ?_) | refine V_seq (V_cond rfl (fun hc3 => ?_) (fun hc3 => ?_)))
  · exfalso; simp only [decide_eq_true_eq] at hc3; change (U.mks f2 (k0)).2 < 0 at hc3; omega
  refine V_skip ?_
  clear hc3
  repeat (first | refine VO_d ?_ | refine VQ_d ?_  | (first | refine VO_nil ?_ | refine VQ_nil ?_) | (first | refine V_seq_region ?_ | refine V_seq (V_seq_region ?_) | refine V_seq_draw tmix (by kernel_rfl) ?_ | refine V_seq (V_seq_draw tmix (by kernel_rfl) ?_) | refine V_region ?_ | refine V_draw tmix (by kernel_rfl) ?_))
  refine V_ret ?_
  exact ⟨trivial, ⟨_, rfl, rfl⟩, trivial⟩

theorem heldType_grp (u : U) : (∀ us, u = .sl 3 us → us.length ≤ big → (∀ x ∈ us, wt (.st 1) x) → PHe 49 u) := by
  refine U.ind (M := fun u => (∀ us, u = .sl 3 us → us.length ≤ big → (∀ x ∈ us, wt (.st 1) x) → PHe 49 u)) (fun u ih => ?_) u
  refine ?_
  · rintro us rfl hl hz
    exact heldTypeS_step hl hz (fun a_0 a_1 a_2 ha => by obtain ⟨_, _, _, hx_a, qa_0, qa_1, qa_2⟩ := inv_Type (hz _ ha); cases hx_a; exact (ih (.sl 3 a_2) (by have := nn_of_mem ha; simp only [U.nn, U.nns] at this ⊢; omega)) a_2 rfl qa_2.1 qa_2.2)
theorem heldTypeS_all {us : List U} (h : us.length ≤ big ∧ ∀ x ∈ us, wt (.st 1) x) : PHe 49 (.sl 3 us) := (heldType_grp (.sl 3 us)) us rfl h.1 h.2
theorem heldType_all {u : U} (h : wt (.st 1) u) : PHe 15 u := by
  obtain ⟨f0, f1, f2, rfl, p0, p1, p2⟩ := inv_Type h
  exact heldType_step (heldTypeS_all p2)

set_option maxRecDepth 8000 in
set_option maxHeartbeats 8000000 in
theorem heldBindingS_step {us : List U} (hl : us.length ≤ big) (hz : ∀ a ∈ us, wt (.st 2) a) (ih0 : ∀ (a_0 : List UInt8) (a_1_0 : Int) (a_1_1 : List UInt8) (a_1_2 : List U), .st [.s a_0, .st [.i .i64 a_1_0, .s a_1_1, .sl 3 a_1_2]] ∈ us → PHe 49 (.sl 3 a_1_2)) : PHe 46 (.sl 4 us) := by
  intro k0 hk0 hk1
  have hlf : (U.sl 4 us).lf = U.lfs us := rfl
  rw [hlf] at hk1
  rw [big_eq] at hl
  show SpecP _ _ [.d (.sl 4 (U.mks us k0).1), .d (.i .i64 k0)] [.i .i64 (U.mks us k0).2]
  obtain ⟨ms, hms⟩ : ∃ ms, (U.mks us k0).1 = ms := ⟨_, rfl⟩
  have hml : ms.length = us.length := by rw [← hms, mks_len]
  have hel : ∀ (i : Nat) (a : U), us[i]? = some a → ms[i]? = some (a.mk (U.mks (us.take i) k0).2).1 := fun i a h => by rw [← hms]; exact mks_get h k0
  rw [hms]
  refine SpecP_intro Tryd.func46 rfl (by kernel_rfl) rfl fun A _ => ?_
  repeat (first | refine VO_d ?_ | refine VQ_d ?_  | (first | refine VO_nil ?_ | refine VQ_nil ?_) | (first | refine V_seq_region ?_ | refine V_seq (V_seq_region ?_) | refine V_seq_draw tmix (by kernel_rfl) ?_ | refine V_seq (V_seq_draw tmix (by kernel_rfl) ?_) | refine V_region ?_ | refine V_draw tmix (by kernel_rfl) ?_))
  refine V_block ?_
  refine V_loop (α := Nat)
    (fun i => ⟨[(0, .d (.sl 4 ms)), (1, .d (.i .i64 (U.mks (us.take i) k0).2)), (5, .d (.i .i64 i))], [], Tryd.f46.ntmps⟩)
    (fun i => i ≤ us.length)
    (fun i => us.length - i) 0 ⟨rfl, ⟨⟨rfl, rfl⟩, ⟨rfl, rfl⟩, ⟨rfl, rfl⟩, trivial⟩, ⟨[], rfl⟩, rfl⟩ (by simp) ?_
  intro i hi
  repeat (first | refine VO_d ?_ | refine VQ_d ?_  | (first | refine VO_nil ?_ | refine VQ_nil ?_) | (first | refine V_seq_region ?_ | refine V_seq (V_seq_region ?_) | refine V_seq_draw tmix (by kernel_rfl) ?_ | refine V_seq (V_seq_draw tmix (by kernel_rfl) ?_) | refine V_region ?_ | refine V_draw tmix (by kernel_rfl) ?_))
  (first | refine V_cond rfl (fun hc2 => ?_) (fun hc2 => ?_) | refine V_seq (V_cond rfl (fun hc2 => ?_) (fun hc2 => ?_)))
  · refine V_skip ?_
    simp only [decide_eq_true_eq] at hc2
    have hil : i < us.length := by omega
    obtain ⟨a, hget⟩ : ∃ a, us[i]? = some a := ⟨_, List.getElem?_eq_getElem hil⟩
    have hmem := List.mem_of_getElem? hget
    have hnext := (mks_next hget k0).2
    have hmid := lfs_mid hget
    have hsnd := mks_snd (us.take i) k0
    have hge := hel i a hget
    have hwa := hz a hmem
    obtain ⟨a_0, a_1, rfl, hwa_0, hwa_1⟩ := inv_Binding hwa
    obtain ⟨a_1_0, a_1_1, a_1_2, rfl, hwa_1_0, hwa_1_1, hwa_1_2⟩ := inv_Type hwa_1
    have hlfa : ((.st [.s a_0, .st [.i .i64 a_1_0, .s a_1_1, .sl 3 a_1_2]]) : U).lf = 0 + 1 + 1 + 1 + U.lfs a_1_2 := by simp [U.lf, U.lfs] <;> omega
    rw [hlfa] at hmid
    have hkp : 0 < (U.mks (us.take i) k0).2 := by omega
    have hkb : (U.mks (us.take i) k0).2 + (0 + 1 + 1 + 1 + U.lfs a_1_2 : Nat) ≤ 4611686018427387904 := by omega
    clear hsnd hlfa hmid
    generalize (U.mks (us.take i) k0).2 = kk at hnext hkp hkb hge ⊢
    have hge : ms[i]? = some (.st [.s (txt (kk)), .st [.i .i64 (kk + 1), .s (txt (kk + 1 + 1)), .sl 3 (U.mks a_1_2 (kk + 1 + 1 + 1)).1]]) := hge
    refine V_seq (V_block ?_)
    have ht0 := markText_all (kk) (by omega) (by omega)
    repeat (first | refine VO_d ?_ | refine VQ_d ?_ | (first | refine VO_q (Q_index rfl rfl TE.h TI.h (by omega) hge) rfl ?_ | refine VQ_q (Q_index rfl rfl TE.h TI.h (by omega) hge) rfl ?_ | (refine VO_bare rfl rfl rfl rfl ?_; refine VO_q (Q_index rfl rfl TE.h TI.h (by omega) hge) rfl ?_) | refine VQ_run rfl rfl rfl rfl (Q_index rfl rfl TE.h TI.h (by omega) hge) rfl ?_) | (first | refine VO_q (Q_call rfl ht0 (by (repeat (first | exact trivial | exact rfl | exact ⟨_, rfl⟩ | refine And.intro ?_ ?_)); first | done | fail)) rfl ?_ | refine VQ_q (Q_call rfl ht0 (by (repeat (first | exact trivial | exact rfl | exact ⟨_, rfl⟩ | refine And.intro ?_ ?_)); first | done | fail)) rfl ?_ | (refine VO_bare rfl rfl rfl rfl ?_; refine VO_q (Q_call rfl ht0 (by (repeat (first | exact trivial | exact rfl | exact ⟨_, rfl⟩ | refine And.intro ?_ ?_)); first | done | fail)) rfl ?_) | refine VQ_run rfl rfl rfl rfl (Q_call rfl ht0 (by (repeat (first | exact trivial | exact rfl | exact ⟨_, rfl⟩ | refine And.intro ?_ ?_)); first | done | fail)) rfl ?_) | (first | refine VO_nil ?_ | refine VQ_nil ?_) | (first | refine V_seq_region ?_ | refine V_seq (V_seq_region ?_) | refine V_seq_draw tmix (by kernel_rfl) ?_ | refine V_seq (V_seq_draw tmix (by kernel_rfl) ?_) | refine V_region ?_ | refine V_draw tmix (by kernel_rfl) ?_))
    (first | refine V_cond rfl (fun hc3 => ?_) (fun hc3 => ?_) | refine V_seq (V_cond rfl (fun hc3 => ?_) (fun hc3 => ?_)))
    · simp at hc3
    refine V_skip ?_
    clear hc3
    repeat (first | refine VO_d ?_ | refine VQ_d ?_ | (first | refine VO_q (Q_index rfl rfl TE.h TI.h (by omega) hge) rfl ?_ | refine VQ_q (Q_index rfl rfl TE.h TI.h (by omega) hge) rfl ?_ | (refine VO_bare rfl rfl rfl rfl ?_; refine VO_q (Q_index rfl rfl TE.h TI.h (by omega) hge) rfl ?_) | refine VQ_run rfl rfl rfl rfl (Q_index rfl rfl TE.h TI.h (by omega) hge) rfl ?_) | (first | refine VO_nil ?_ | refine VQ_nil ?_) | (first | refine V_seq_region ?_ | refine V_seq (V_seq_region ?_) | refine V_seq_draw tmix (by kernel_rfl) ?_ | refine V_seq (V_seq_draw tmix (by kernel_rfl) ?_) | refine V_region ?_ | refine V_draw tmix (by kernel_rfl) ?_))
    (first | refine V_cond rfl (fun hc3 => ?_) (fun hc3 => ?_) | refine V_seq (V_cond rfl (fun hc3 => ?_) (fun hc3 => ?_)))
    · simp at hc3
    refine V_skip ?_
    clear hc3
    have ht2 := markText_all (kk + 1 + 1) (by omega) (by omega)
    repeat (first | refine VO_d ?_ | refine VQ_d ?_ | (first | refine VO_q (Q_index rfl rfl TE.h TI.h (by omega) hge) rfl ?_ | refine VQ_q (Q_index rfl rfl TE.h TI.h (by omega) hge) rfl ?_ | (refine VO_bare rfl rfl rfl rfl ?_; refine VO_q (Q_index rfl rfl TE.h TI.h (by omega) hge) rfl ?_) | refine VQ_run rfl rfl rfl rfl (Q_index rfl rfl TE.h TI.h (by omega) hge) rfl ?_) | (first | refine VO_q (Q_call rfl ht2 (by (repeat (first | exact trivial | exact rfl | exact ⟨_, rfl⟩ | refine And.intro ?_ ?_)); first | done | fail)) rfl ?_ | refine VQ_q (Q_call rfl ht2 (by (repeat (first | exact trivial | exact rfl | exact ⟨_, rfl⟩ | refine And.intro ?_ ?_)); first | done | fail)) rfl ?_ | (refine VO_bare rfl rfl rfl rfl ?_; refine VO_q (Q_call rfl ht2 (by (repeat (first | exact trivial | exact rfl | exact ⟨_, rfl⟩ | refine And.intro ?_ ?_)); first | done | fail)) rfl ?_) | refine VQ_run rfl rfl rfl rfl (Q_call rfl ht2 (by (repeat (first | exact trivial | exact rfl | exact ⟨_, rfl⟩ | refine And.intro ?_ ?_)); first | done | fail)) rfl ?_) | (first | refine VO_nil ?_ | refine VQ_nil ?_) | (first | refine V_seq_region ?_ | refine V_seq (V_seq_region ?_) | refine V_seq_draw tmix (by kernel_rfl) ?_ | refine V_seq (V_seq_draw tmix (by kernel_rfl) ?_) | refine V_region ?_ | refine V_draw tmix (by kernel_rfl) ?_))
    (first | refine V_cond rfl (fun hc3 => ?_) (fun hc3 => ?_) | refine V_seq (V_cond rfl (fun hc3 => ?_) (fun hc3 => ?_)))
    · simp at hc3
    refine V_skip ?_
    clear hc3
    have hm3 := ih0 a_0 a_1_0 a_1_1 a_1_2 hmem (kk + 1 + 1 + 1) (by omega) (by simp only [U.lf]; omega)
    change SpecP _ _ [.d (.sl 3 (U.mks a_1_2 (kk + 1 + 1 + 1)).1), _] [.i .i64 (U.mks a_1_2 (kk + 1 + 1 + 1)).2] at hm3
    have hs3 := mks_snd a_1_2 (kk + 1 + 1 + 1)
    repeat (first | refine VO_d ?_ | refine VQ_d ?_ | (first | refine VO_q (Q_index rfl rfl TE.h TI.h (by omega) hge) rfl ?_ | refine VQ_q (Q_index rfl rfl TE.h TI.h (by omega) hge) rfl ?_ | (refine VO_bare rfl rfl rfl rfl ?_; refine VO_q (Q_index rfl rfl TE.h TI.h (by omega) hge) rfl ?_) | refine VQ_run rfl rfl rfl rfl (Q_index rfl rfl TE.h TI.h (by omega) hge) rfl ?_) | (first | refine VO_q (Q_call rfl hm3 (by (repeat (first | exact trivial | exact rfl | exact ⟨_, rfl⟩ | refine And.intro ?_ ?_)); first | done | fail)) rfl ?_ | refine VQ_q (Q_call rfl hm3 (by (repeat (first | exact trivial | exact rfl | exact ⟨_, rfl⟩ | refine And.intro ?_ ?_)); first | done | fail)) rfl ?_ | (refine VO_bare rfl rfl rfl rfl ?_; refine VO_q (Q_call rfl hm3 (by (repeat (first | exact trivial | exact rfl | exact ⟨_, rfl⟩ | refine And.intro ?_ ?_)); first | done | fail)) rfl ?_) | refine VQ_run rfl rfl rfl rfl (Q_call rfl hm3 (by (repeat (first | exact trivial | exact rfl | exact ⟨_, rfl⟩ | refine And.intro ?_ ?_)); first | done | fail)) rfl ?_) | (first | refine VO_nil ?_ | refine VQ_nil ?_) | (first | refine V_seq_region ?_ | refine V_seq (V_seq_region ?_) | refine V_seq_draw tmix (by kernel_rfl) ?_ | refine V_seq (V_seq_draw tmix (by kernel_rfl) ?_) | refine V_region ?_ | refine V_draw tmix (by kernel_rfl) ?_))
    (first | refine V_cond rfl (fun hc3 => ?_) (fun hc3 => ?_) | refine V_seq (V_cond rfl (fun hc3 => ?_) (fun hc3 => ?_)))
    · exfalso; simp only [decide_eq_true_eq] at hc3; change (U.mks a_1_2 (kk + 1 + 1 + 1)).2 < 0 at hc3; omega
    refine V_skip ?_
    clear hc3
    repeat (first | refine VO_d ?_ | refine VQ_d ?_  | (first | refine VO_nil ?_ | refine VQ_nil ?_) | (first | refine V_seq_region ?_ | refine V_seq (V_seq_region ?_) | refine V_seq_draw tmix (by kernel_rfl) ?_ | refine V_seq (V_seq_draw tmix (by kernel_rfl) ?_) | refine V_region ?_ | refine V_draw tmix (by kernel_rfl) ?_))
    refine ⟨i + 1, by omega, by omega, ⟨rfl, ⟨⟨rfl, rfl⟩, ⟨?_, rfl⟩, ⟨rfl, rfl⟩, trivial⟩, ⟨[], rfl⟩, rfl⟩⟩
    rw [hnext]
    rfl
  · refine V_exit ?_
    simp only [decide_eq_false_iff_not] at hc2
    have hkl : i = us.length := by omega
    subst hkl
    show V _ _ _ _ _
    repeat (first | refine VO_d ?_ | refine VQ_d ?_  | (first | refine VO_nil ?_ | refine VQ_nil ?_) | (first | refine V_seq_region ?_ | refine V_seq (V_seq_region ?_) | refine V_seq_draw tmix (by kernel_rfl) ?_ | refine V_seq (V_seq_draw tmix (by kernel_rfl) ?_) | refine V_region ?_ | refine V_draw tmix (by kernel_rfl) ?_))
    refine V_ret ?_
    refine ⟨trivial, ⟨_, rfl, ?_⟩, trivial⟩
    rw [List.take_length]
    exact rfl

theorem heldBinding_grp (u : U) : (∀ us, u = .sl 4 us → us.length ≤ big → (∀ x ∈ us, wt (.st 2) x) → PHe 46 u) := by
  refine U.ind (M := fun u => (∀ us, u = .sl 4 us → us.length ≤ big → (∀ x ∈ us, wt (.st 2) x) → PHe 46 u)) (fun u ih => ?_) u
  refine ?_
  · rintro us rfl hl hz
    exact heldBindingS_step hl hz (fun a_0 a_1_0 a_1_1 a_1_2 ha => by obtain ⟨_, _, hx_a, qa_0, qa_1⟩ := inv_Binding (hz _ ha); cases hx_a; obtain ⟨_, _, _, hx_a_1, qa_1_0, qa_1_1, qa_1_2⟩ := inv_Type qa_1; cases hx_a_1; exact heldTypeS_all qa_1_2)
theorem heldBindingS_all {us : List U} (h : us.length ≤ big ∧ ∀ x ∈ us, wt (.st 2) x) : PHe 46 (.sl 4 us) := (heldBinding_grp (.sl 4 us)) us rfl h.1 h.2
set_option maxRecDepth 8000 in
set_option maxHeartbeats 8000000 in
theorem heldEquationS_step {us : List U} (hl : us.length ≤ big) (hz : ∀ a ∈ us, wt (.st 22) a) (ih0 : ∀ (a_0_0 : Int) (a_0_1 : List UInt8) (a_0_2 : List U) (a_1_0 : Int) (a_1_1 : List UInt8) (a_1_2 : List U) (a_2 : Int), .st [.st [.i .i64 a_0_0, .s a_0_1, .sl 3 a_0_2], .st [.i .i64 a_1_0, .s a_1_1, .sl 3 a_1_2], .i .i64 a_2] ∈ us → PHe 49 (.sl 3 a_0_2)) (ih1 : ∀ (a_0_0 : Int) (a_0_1 : List UInt8) (a_0_2 : List U) (a_1_0 : Int) (a_1_1 : List UInt8) (a_1_2 : List U) (a_2 : Int), .st [.st [.i .i64 a_0_0, .s a_0_1, .sl 3 a_0_2], .st [.i .i64 a_1_0, .s a_1_1, .sl 3 a_1_2], .i .i64 a_2] ∈ us → PHe 49 (.sl 3 a_1_2)) : PHe 47 (.sl 7 us) := by
  intro k0 hk0 hk1
  have hlf : (U.sl 7 us).lf = U.lfs us := rfl
  rw [hlf] at hk1
  rw [big_eq] at hl
  show SpecP _ _ [.d (.sl 7 (U.mks us k0).1), .d (.i .i64 k0)] [.i .i64 (U.mks us k0).2]
  obtain ⟨ms, hms⟩ : ∃ ms, (U.mks us k0).1 = ms := ⟨_, rfl⟩
  have hml : ms.length = us.length := by rw [← hms, mks_len]
  have hel : ∀ (i : Nat) (a : U), us[i]? = some a → ms[i]? = some (a.mk (U.mks (us.take i) k0).2).1 := fun i a h => by rw [← hms]; exact mks_get h k0
  rw [hms]
  refine SpecP_intro Tryd.func47 rfl (by kernel_rfl) rfl fun A _ => ?_
  repeat (first | refine VO_d ?_ | refine VQ_d ?_  | (first | refine VO_nil ?_ | refine VQ_nil ?_) | (first | refine V_seq_region ?_ | refine V_seq (V_seq_region ?_) | refine V_seq_draw tmix (by kernel_rfl) ?_ | refine V_seq (V_seq_draw tmix (by kernel_rfl) ?_) | refine V_region ?_ | refine V_draw tmix (by kernel_rfl) ?_))
  refine V_block ?_
  refine V_loop (α := Nat)
    (fun i => ⟨[(0, .d (.sl 7 ms)), (1, .d (.i .i64 (U.mks (us.take i) k0).2)), (5, .d (.i .i64 i))], [], Tryd.f47.ntmps⟩)
    (fun i => i ≤ us.length)
    (fun i => us.length - i) 0 ⟨rfl, ⟨⟨rfl, rfl⟩, ⟨rfl, rfl⟩, ⟨rfl, rfl⟩, trivial⟩, ⟨[], rfl⟩, rfl⟩ (by simp) ?_
  intro i hi
  repeat (first | refine VO_d ?_ | refine VQ_d ?_  | (first | refine VO_nil ?_ | refine VQ_nil ?_) | (first | refine V_seq_region ?_ | refine V_seq (V_seq_region ?_) | refine V_seq_draw tmix (by kernel_rfl) ?_ | refine V_seq (V_seq_draw tmix (by kernel_rfl) ?_) | refine V_region ?_ | refine V_draw tmix (by kernel_rfl) ?_))
  (first | refine V_cond rfl (fun hc2 => ?_) (fun hc2 => ?_) | refine V_seq (V_cond rfl (fun hc2 => ?_) (fun hc2 => ?_)))
  · refine V_skip ?_
    simp only [decide_eq_true_eq] at hc2
    have hil : i < us.length := by omega
    obtain ⟨a, hget⟩ : ∃ a, us[i]? = some a := ⟨_, List.getElem?_eq_getElem hil⟩
    have hmem := List.mem_of_getElem? hget
    have hnext := (mks_next hget k0).2
    have hmid := lfs_mid hget
    have hsnd := mks_snd (us.take i) k0
    have hge := hel i a hget
    have hwa := hz a hmem
    obtain ⟨a_0, a_1, a_2, rfl, hwa_0, hwa_1, hwa_2⟩ := inv_Equation hwa
    obtain ⟨a_0_0, a_0_1, a_0_2, rfl, hwa_0_0, hwa_0_1, hwa_0_2⟩ := inv_Type hwa_0
    obtain ⟨a_1_0, a_1_1, a_1_2, rfl, hwa_1_0, hwa_1_1, hwa_1_2⟩ := inv_Type hwa_1
    have hlfa : ((.st [.st [.i .i64 a_0_0, .s a_0_1, .sl 3 a_0_2], .st [.i .i64 a_1_0, .s a_1_1, .sl 3 a_1_2], .i .i64 a_2]) : U).lf = 0 + 1 + 1 + U.lfs a_0_2 + 1 + 1 + U.lfs a_1_2 + 1 := by simp [U.lf, U.lfs] <;> omega
    rw [hlfa] at hmid
    have hkp : 0 < (U.mks (us.take i) k0).2 := by omega
    have hkb : (U.mks (us.take i) k0).2 + (0 + 1 + 1 + U.lfs a_0_2 + 1 + 1 + U.lfs a_1_2 + 1 : Nat) ≤ 4611686018427387904 := by omega
    clear hsnd hlfa hmid
    generalize (U.mks (us.take i) k0).2 = kk at hnext hkp hkb hge ⊢
    have hge : ms[i]? = some (.st [.st [.i .i64 (kk), .s (txt (kk + 1)), .sl 3 (U.mks a_0_2 (kk + 1 + 1)).1], .st [.i .i64 ((U.mks a_0_2 (kk + 1 + 1)).2), .s (txt ((U.mks a_0_2 (kk + 1 + 1)).2 + 1)), .sl 3 (U.mks a_1_2 ((U.mks a_0_2 (kk + 1 + 1)).2 + 1 + 1)).1], .i .i64 ((U.mks a_1_2 ((U.mks a_0_2 (kk + 1 + 1)).2 + 1 + 1)).2)]) := hge
    refine V_seq (V_block ?_)
    repeat (first | refine VO_d ?_ | refine VQ_d ?_ | (first | refine VO_q (Q_index rfl rfl TE.h TI.h (by omega) hge) rfl ?_ | refine VQ_q (Q_index rfl rfl TE.h TI.h (by omega) hge) rfl ?_ | (refine VO_bare rfl rfl rfl rfl ?_; refine VO_q (Q_index rfl rfl TE.h TI.h (by omega) hge) rfl ?_) | refine VQ_run rfl rfl rfl rfl (Q_index rfl rfl TE.h TI.h (by omega) hge) rfl ?_) | (first | refine VO_nil ?_ | refine VQ_nil ?_) | (first | refine V_seq_region ?_ | refine V_seq (V_seq_region ?_) | refine V_seq_draw tmix (by kernel_rfl) ?_ | refine V_seq (V_seq_draw tmix (by kernel_rfl) ?_) | refine V_region ?_ | refine V_draw tmix (by kernel_rfl) ?_))
    (first | refine V_cond rfl (fun hc3 => ?_) (fun hc3 => ?_) | refine V_seq (V_cond rfl (fun hc3 => ?_) (fun hc3 => ?_)))
    · simp at hc3
    refine V_skip ?_
    clear hc3
    have ht1 := markText_all (kk + 1) (by omega) (by omega)
    repeat (first | refine VO_d ?_ | refine VQ_d ?_ | (first | refine VO_q (Q_index rfl rfl TE.h TI.h (by omega) hge) rfl ?_ | refine VQ_q (Q_index rfl rfl TE.h TI.h (by omega) hge) rfl ?_ | (refine VO_bare rfl rfl rfl rfl ?_; refine VO_q (Q_index rfl rfl TE.h TI.h (by omega) hge) rfl ?_) | refine VQ_run rfl rfl rfl rfl (Q_index rfl rfl TE.h TI.h (by omega) hge) rfl ?_) | (first | refine VO_q (Q_call rfl ht1 (by (repeat (first | exact trivial | exact rfl | exact ⟨_, rfl⟩ | refine And.intro ?_ ?_)); first | done | fail)) rfl ?_ | refine VQ_q (Q_call rfl ht1 (by (repeat (first | exact trivial | exact rfl | exact ⟨_, rfl⟩ | refine And.intro ?_ ?_)); first | done | fail)) rfl ?_ | (refine VO_bare rfl rfl rfl rfl ?_; refine VO_q (Q_call rfl ht1 (by (repeat (first | exact trivial | exact rfl | exact ⟨_, rfl⟩ | refine And.intro ?_ ?_)); first | done | fail)) rfl ?_) | refine VQ_run rfl rfl rfl rfl (Q_call rfl ht1 (by (repeat (first | exact trivial | exact rfl | exact ⟨_, rfl⟩ | refine And.intro ?_ ?_)); first | done | fail)) rfl ?_) | (first | refine VO_nil ?_ | refine VQ_nil ?_) | (first | refine V_seq_region ?_ | refine V_seq (V_seq_region ?_) | refine V_seq_draw tmix (by kernel_rfl) ?_ | refine V_seq (V_seq_draw tmix (by kernel_rfl) ?_) | refine V_region ?_ | refine V_draw tmix (by kernel_rfl) ?_))
    (first | refine V_cond rfl (fun hc3 => ?_) (fun hc3 => ?_) | refine V_seq (V_cond rfl (fun hc3 => ?_) (fun hc3 => ?_)))
    · simp at hc3
    refine V_skip ?_
    clear hc3
    have hm2 := ih0 a_0_0 a_0_1 a_0_2 a_1_0 a_1_1 a_1_2 a_2 hmem (kk + 1 + 1) (by omega) (by simp only [U.lf]; omega)
    change SpecP _ _ [.d (.sl 3 (U.mks a_0_2 (kk + 1 + 1)).1), _] [.i .i64 (U.mks a_0_2 (kk + 1 + 1)).2] at hm2
    have hs2 := mks_snd a_0_2 (kk + 1 + 1)
    repeat (first | refine VO_d ?_ | refine VQ_d ?_ | (first | refine VO_q (Q_index rfl rfl TE.h TI.h (by omega) hge) rfl ?_ | refine VQ_q (Q_index rfl rfl TE.h TI.h (by omega) hge) rfl ?_ | (refine VO_bare rfl rfl rfl rfl ?_; refine VO_q (Q_index rfl rfl TE.h TI.h (by omega) hge) rfl ?_) | refine VQ_run rfl rfl rfl rfl (Q_index rfl rfl TE.h TI.h (by omega) hge) rfl ?_) | (first | refine VO_q (Q_call rfl hm2 (by (repeat (first | exact trivial | exact rfl | exact ⟨_, rfl⟩ | refine And.intro ?_ ?_)); first | done | fail)) rfl ?_ | refine VQ_q (Q_call rfl hm2 (by (repeat (first | exact trivial | exact rfl | exact ⟨_, rfl⟩ | refine And.intro ?_ ?_)); first | done | fail)) rfl ?_ | (refine VO_bare rfl rfl rfl rfl ?_; refine VO_q (Q_call rfl hm2 (by (repeat (first | exact trivial | exact rfl | exact ⟨_, rfl⟩ | refine And.intro ?_ ?_)); first | done | fail)) rfl ?_) | refine VQ_run rfl rfl rfl rfl (Q_call rfl hm2 (by (repeat (first | exact trivial | exact rfl | exact ⟨_, rfl⟩ | refine And.intro ?_ ?_)); first | done | fail)) rfl ?_) | (first | refine VO_nil ?_ | refine VQ_nil ?_) | (first | refine V_seq_region ?_ | refine V_seq (V_seq_region ?_) | refine V_seq_draw tmix (by kernel_rfl) ?_ | refine V_seq (V_seq_draw tmix (by kernel_rfl) ?_) | refine V_region ?_ | refine V_draw tmix (by kernel_rfl) ?_))
    (first | refine V_cond rfl (fun hc3 => ?_) (fun hc3 => ?_) | refine V_seq (V_cond rfl (fun hc3 => ?_) (fun hc3 => ?_)))
    · exfalso; simp only [decide_eq_true_eq] at hc3; change (U.mks a_0_2 (kk + 1 + 1)).2 < 0 at hc3; omega
    refine V_skip ?_
    clear hc3
    repeat (first | refine VO_d ?_ | refine VQ_d ?_ | (first | refine VO_q (Q_index rfl rfl TE.h TI.h (by omega) hge) rfl ?_ | refine VQ_q (Q_index rfl rfl TE.h TI.h (by omega) hge) rfl ?_ | (refine VO_bare rfl rfl rfl rfl ?_; refine VO_q (Q_index rfl rfl TE.h TI.h (by omega) hge) rfl ?_) | refine VQ_run rfl rfl rfl rfl (Q_index rfl rfl TE.h TI.h (by omega) hge) rfl ?_) | (first | refine VO_nil ?_ | refine VQ_nil ?_) | (first | refine V_seq_region ?_ | refine V_seq (V_seq_region ?_) | refine V_seq_draw tmix (by kernel_rfl) ?_ | refine V_seq (V_seq_draw tmix (by kernel_rfl) ?_) | refine V_region ?_ | refine V_draw tmix (by kernel_rfl) ?_))
    (first | refine V_cond rfl (fun hc3 => ?_) (fun hc3 => ?_) | refine V_seq (V_cond rfl (fun hc3 => ?_) (fun hc3 => ?_)))
    · simp at hc3
    refine V_skip ?_
    clear hc3
    have ht4 := markText_all ((U.mks a_0_2 (kk + 1 + 1)).2 + 1) (by omega) (by omega)
    repeat (first | refine VO_d ?_ | refine VQ_d ?_ | (first | refine VO_q (Q_index rfl rfl TE.h TI.h (by omega) hge) rfl ?_ | refine VQ_q (Q_index rfl rfl TE.h TI.h (by omega) hge) rfl ?_ | (refine VO_bare rfl rfl rfl rfl ?_; refine VO_q (Q_index rfl rfl TE.h TI.h (by omega) hge) rfl ?_) | refine VQ_run rfl rfl rfl rfl (Q_index rfl rfl TE.h TI.h (by omega) hge) rfl ?_) | (first | refine VO_q (Q_call rfl ht4 (by (repeat (first | exact trivial | exact rfl | exact ⟨_, rfl⟩ | refine And.intro ?_ ?_)); first | done | fail)) rfl ?_ | refine VQ_q (Q_call rfl ht4 (by (repeat (first | exact trivial | exact rfl | exact ⟨_, rfl⟩ | refine And.intro ?_ ?_)); first | done | fail)) rfl ?_ | (refine VO_bare rfl rfl rfl rfl ?_; refine VO_q (Q_call rfl ht4 (by (repeat (first | exact trivial | exact rfl | exact ⟨_, rfl⟩ | refine And.intro ?_ ?_)); first | done | fail)) rfl ?_) | refine VQ_run rfl rfl rfl rfl (Q_call rfl ht4 (by (repeat (first | exact trivial | exact rfl | exact ⟨_, rfl⟩ | refine And.intro ?_ ?_)); first | done | fail)) rfl ?_) | (first | refine VO_nil ?_ | refine VQ_nil ?_) | (first | refine V_seq_region ?_ | refine V_seq (V_seq_region ?_) | refine V_seq_draw tmix (by kernel_rfl) ?_ | refine V_seq (V_seq_draw tmix (by kernel_rfl) ?_) | refine V_region ?_ | refine V_draw tmix (by kernel_rfl) ?_))
    (first | refine V_cond rfl (fun hc3 => ?_) (fun hc3 => ?_) | refine V_seq (V_cond rfl (fun hc3 => ?_) (fun hc3 => ?_)))
    · simp at hc3
    refine V_skip ?_
    clear hc3
    have hm5 := ih1 a_0_0 a_0_1 a_0_2 a_1_0 a_1_1 a_1_2 a_2 hmem ((U.mks a_0_2 (kk + 1 + 1)).2 + 1 + 1) (by omega) (by simp only [U.lf]; omega)
    change SpecP _ _ [.d (.sl 3 (U.mks a_1_2 ((U.mks a_0_2 (kk + 1 + 1)).2 + 1 + 1)).1), _] [.i .i64 (U.mks a_1_2 ((U.mks a_0_2 (kk + 1 + 1)).2 + 1 + 1)).2] at hm5
    have hs5 := mks_snd a_1_2 ((U.mks a_0_2 (kk + 1 + 1)).2 + 1 + 1)
    repeat (first | refine VO_d ?_ | refine VQ_d ?_ | (first | refine VO_q (Q_index rfl rfl TE.h TI.h (by omega) hge) rfl ?_ | refine VQ_q (Q_index rfl rfl TE.h TI.h (by omega) hge) rfl ?_ | (refine VO_bare rfl rfl rfl rfl ?_; refine VO_q (Q_index rfl rfl TE.h TI.h (by omega) hge) rfl ?_) | refine VQ_run rfl rfl rfl rfl (Q_index rfl rfl TE.h TI.h (by omega) hge) rfl ?_) | (first | refine VO_q (Q_call rfl hm5 (by (repeat (first | exact trivial | exact rfl | exact ⟨_, rfl⟩ | refine And.intro ?_ ?_)); first | done | fail)) rfl ?_ | refine VQ_q (Q_call rfl hm5 (by (repeat (first | exact trivial | exact rfl | exact ⟨_, rfl⟩ | refine And.intro ?_ ?_)); first | done | fail)) rfl ?_ | (refine VO_bare rfl rfl rfl rfl ?_; refine VO_q (Q_call rfl hm5 (by (repeat (first | exact trivial | exact rfl | exact ⟨_, rfl⟩ | refine And.intro ?_ ?_)); first | done | fail)) rfl ?_) | refine VQ_run rfl rfl rfl rfl (Q_call rfl hm5 (by (repeat (first | exact trivial | exact rfl | exact ⟨_, rfl⟩ | refine And.intro ?_ ?_)); first | done | fail)) rfl ?_) | (first | refine VO_nil ?_ | refine VQ_nil ?_) | (first | refine V_seq_region ?_ | refine V_seq (V_seq_region ?_) | refine V_seq_draw tmix (by kernel_rfl) ?_ | refine V_seq (V_seq_draw tmix (by kernel_rfl) ?_) | refine V_region ?_ | refine V_draw tmix (by kernel_rfl) ?_))
    (first | refine V_cond rfl (fun hc3 => ?_) (fun hc3 => ?_) | refine V_seq (V_cond rfl (fun hc3 => ?_) (fun hc3 => ?_)))
    · exfalso; simp only [decide_eq_true_eq] at hc3; change (U.mks a_1_2 ((U.mks a_0_2 (kk + 1 + 1)).2 + 1 + 1)).2 < 0 at hc3; omega
    refine V_skip ?_
    clear hc3
    repeat (first | refine VO_d ?_ | refine VQ_d ?_ | (first | refine VO_q (Q_index rfl rfl TE.h TI.h (by omega) hge) rfl ?_ | refine VQ_q (Q_index rfl rfl TE.h TI.h (by omega) hge) rfl ?_ | (refine VO_bare rfl rfl rfl rfl ?_; refine VO_q (Q_index rfl rfl TE.h TI.h (by omega) hge) rfl ?_) | refine VQ_run rfl rfl rfl rfl (Q_index rfl rfl TE.h TI.h (by omega) hge) rfl ?_) | (first | refine VO_nil ?_ | refine VQ_nil ?_) | (first | refine V_seq_region ?_ | refine V_seq (V_seq_region ?_) | refine V_seq_draw tmix (by kernel_rfl) ?_ | refine V_seq (V_seq_draw tmix (by kernel_rfl) ?_) | refine V_region ?_ | refine V_draw tmix (by kernel_rfl) ?_))
    (first | refine V_cond rfl (fun hc3 => ?_) (fun hc3 => ?_) | refine V_seq (V_cond rfl (fun hc3 => ?_) (fun hc3 => ?_)))
    · simp at hc3
    refine V_skip ?_
    clear hc3
    repeat (first | refine VO_d ?_ | refine VQ_d ?_  | (first | refine VO_nil ?_ | refine VQ_nil ?_) | (first | refine V_seq_region ?_ | refine V_seq (V_seq_region ?_) | refine V_seq_draw tmix (by kernel_rfl) ?_ | refine V_seq (V_seq_draw tmix (by kernel_rfl) ?_) | refine V_region ?_ | refine V_draw tmix (by kernel_rfl) ?_))
    refine ⟨i + 1, by omega, by omega, ⟨rfl, ⟨⟨rfl, rfl⟩, ⟨?_, rfl⟩, ⟨rfl, rfl⟩, trivial⟩, ⟨[], rfl⟩, rfl⟩⟩
    rw [hnext]
    rfl
  · refine V_exit ?_
    simp only [decide_eq_false_iff_not] at hc2
    have hkl : i = us.length := by omega
    subst hkl
    show V _ _ _ _ _
    repeat (first | refine VO_d ?_ | refine VQ_d ?_  | (first | refine VO_nil ?_ | refine VQ_nil ?_) | (first | refine V_seq_region ?_ | refine V_seq (V_seq_region ?_) | refine V_seq_draw tmix (by kernel_rfl) ?_ | refine V_seq (V_seq_draw tmix (by kernel_rfl) ?_) | refine V_region ?_ | refine V_draw tmix (by kernel_rfl) ?_))
    refine V_ret ?_
    refine ⟨trivial, ⟨_, rfl, ?_⟩, trivial⟩
    rw [List.take_length]
    exact rfl

theorem heldEquation_grp (u : U) : (∀ us, u = .sl 7 us → us.length ≤ big → (∀ x ∈ us, wt (.st 22) x) → PHe 47 u) := by
  refine U.ind (M := fun u => (∀ us, u = .sl 7 us → us.length ≤ big → (∀ x ∈ us, wt (.st 22) x) → PHe 47 u)) (fun u ih => ?_) u
  refine ?_
  · rintro us rfl hl hz
    exact heldEquationS_step hl hz (fun a_0_0 a_0_1 a_0_2 a_1_0 a_1_1 a_1_2 a_2 ha => by obtain ⟨_, _, _, hx_a, qa_0, qa_1, qa_2⟩ := inv_Equation (hz _ ha); cases hx_a; obtain ⟨_, _, _, hx_a_0, qa_0_0, qa_0_1, qa_0_2⟩ := inv_Type qa_0; cases hx_a_0; obtain ⟨_, _, _, hx_a_1, qa_1_0, qa_1_1, qa_1_2⟩ := inv_Type qa_1; cases hx_a_1; exact heldTypeS_all qa_0_2) (fun a_0_0 a_0_1 a_0_2 a_1_0 a_1_1 a_1_2 a_2 ha => by obtain ⟨_, _, _, hx_a, qa_0, qa_1, qa_2⟩ := inv_Equation (hz _ ha); cases hx_a; obtain ⟨_, _, _, hx_a_0, qa_0_0, qa_0_1, qa_0_2⟩ := inv_Type qa_0; cases hx_a_0; obtain ⟨_, _, _, hx_a_1, qa_1_0, qa_1_1, qa_1_2⟩ := inv_Type qa_1; cases hx_a_1; exact heldTypeS_all qa_1_2)
theorem heldEquationS_all {us : List U} (h : us.length ≤ big ∧ ∀ x ∈ us, wt (.st 22) x) : PHe 47 (.sl 7 us) := (heldEquation_grp (.sl 7 us)) us rfl h.1 h.2
set_option maxRecDepth 8000 in
set_option maxHeartbeats 8000000 in
theorem heldObligationS_step {us : List U} (hl : us.length ≤ big) (hz : ∀ a ∈ us, wt (.st 23) a) (ih0 : ∀ (a_0_0 : List UInt8) (a_0_1_0 : Int) (a_0_1_1 : List UInt8) (a_0_1_2 : List U) (a_1 : Int), .st [.st [.s a_0_0, .st [.i .i64 a_0_1_0, .s a_0_1_1, .sl 3 a_0_1_2]], .i .i64 a_1] ∈ us → PHe 49 (.sl 3 a_0_1_2)) : PHe 48 (.sl 5 us) := by
  intro k0 hk0 hk1
  have hlf : (U.sl 5 us).lf = U.lfs us := rfl
  rw [hlf] at hk1
  rw [big_eq] at hl
  show SpecP _ _ [.d (.sl 5 (U.mks us k0).1), .d (.i .i64 k0)] [.i .i64 (U.mks us k0).2]
  obtain ⟨ms, hms⟩ : ∃ ms, (U.mks us k0).1 = ms := ⟨_, rfl⟩
  have hml : ms.length = us.length := by rw [← hms, mks_len]
  have hel : ∀ (i : Nat) (a : U), us[i]? = some a → ms[i]? = some (a.mk (U.mks (us.take i) k0).2).1 := fun i a h => by rw [← hms]; exact mks_get h k0
  rw [hms]
  refine SpecP_intro Tryd.func48 rfl (by kernel_rfl) rfl fun A _ => ?_
  repeat (first | refine VO_d ?_ | refine VQ_d ?_  | (first | refine VO_nil ?_ | refine VQ_nil ?_) | (first | refine V_seq_region ?_ | refine V_seq (V_seq_region ?_) | refine V_seq_draw tmix (by kernel_rfl) ?_ | refine V_seq (V_seq_draw tmix (by kernel_rfl) ?_) | refine V_region ?_ | refine V_draw tmix (by kernel_rfl) ?_))
  refine V_block ?_
  refine V_loop (α := Nat)
    (fun i => ⟨[(0, .d (.sl 5 ms)), (1, .d (.i .i64 (U.mks (us.take i) k0).2)), (5, .d (.i .i64 i))], [], Tryd.f48.ntmps⟩)
    (fun i => i ≤ us.length)
    (fun i => us.length - i) 0 ⟨rfl, ⟨⟨rfl, rfl⟩, ⟨rfl, rfl⟩, ⟨rfl, rfl⟩, trivial⟩, ⟨[], rfl⟩, rfl⟩ (by simp) ?_
  intro i hi
  repeat (first | refine VO_d ?_ | refine VQ_d ?_  | (first | refine VO_nil ?_ | refine VQ_nil ?_) | (first | refine V_seq_region ?_ | refine V_seq (V_seq_region ?_) | refine V_seq_draw tmix (by kernel_rfl) ?_ | refine V_seq (V_seq_draw tmix (by kernel_rfl) ?_) | refine V_region ?_ | refine V_draw tmix (by kernel_rfl) ?_))
  (first | refine V_cond rfl (fun hc2 => ?_) (fun hc2 => ?_) | refine V_seq (V_cond rfl (fun hc2 => ?_) (fun hc2 => ?_)))
  · refine V_skip ?_
    simp only [decide_eq_true_eq] at hc2
    have hil : i < us.length := by omega
    obtain ⟨a, hget⟩ : ∃ a, us[i]? = some a := ⟨_, List.getElem?_eq_getElem hil⟩
    have hmem := List.mem_of_getElem? hget
    have hnext := (mks_next hget k0).2
    have hmid := lfs_mid hget
    have hsnd := mks_snd (us.take i) k0
    have hge := hel i a hget
    have hwa := hz a hmem
    obtain ⟨a_0, a_1, rfl, hwa_0, hwa_1⟩ := inv_Obligation hwa
    obtain ⟨a_0_0, a_0_1, rfl, hwa_0_0, hwa_0_1⟩ := inv_Bound hwa_0
    obtain ⟨a_0_1_0, a_0_1_1, a_0_1_2, rfl, hwa_0_1_0, hwa_0_1_1, hwa_0_1_2⟩ := inv_Type hwa_0_1
    have hlfa : ((.st [.st [.s a_0_0, .st [.i .i64 a_0_1_0, .s a_0_1_1, .sl 3 a_0_1_2]], .i .i64 a_1]) : U).lf = 0 + 1 + 1 + 1 + U.lfs a_0_1_2 + 1 := by simp [U.lf, U.lfs] <;> omega
    rw [hlfa] at hmid
    have hkp : 0 < (U.mks (us.take i) k0).2 := by omega
    have hkb : (U.mks (us.take i) k0).2 + (0 + 1 + 1 + 1 + U.lfs a_0_1_2 + 1 : Nat) ≤ 4611686018427387904 := by omega
    clear hsnd hlfa hmid
    generalize (U.mks (us.take i) k0).2 = kk at hnext hkp hkb hge ⊢
    have hge : ms[i]? = some (.st [.st [.s (txt (kk)), .st [.i .i64 (kk + 1), .s (txt (kk + 1 + 1)), .sl 3 (U.mks a_0_1_2 (kk + 1 + 1 + 1)).1]], .i .i64 ((U.mks a_0_1_2 (kk + 1 + 1 + 1)).2)]) := hge
    refine V_seq (V_block ?_)
    have ht0 := markText_all (kk) (by omega) (by omega)
    repeat (first | refine VO_d ?_ | refine VQ_d ?_ | (first | refine VO_q (Q_index rfl rfl TE.h TI.h (by omega) hge) rfl ?_ | refine VQ_q (Q_index rfl rfl TE.h TI.h (by omega) hge) rfl ?_ | (refine VO_bare rfl rfl rfl rfl ?_; refine VO_q (Q_index rfl rfl TE.h TI.h (by omega) hge) rfl ?_) | refine VQ_run rfl rfl rfl rfl (Q_index rfl rfl TE.h TI.h (by omega) hge) rfl ?_) | (first | refine VO_q (Q_call rfl ht0 (by (repeat (first | exact trivial | exact rfl | exact ⟨_, rfl⟩ | refine And.intro ?_ ?_)); first | done | fail)) rfl ?_ | refine VQ_q (Q_call rfl ht0 (by (repeat (first | exact trivial | exact rfl | exact ⟨_, rfl⟩ | refine And.intro ?_ ?_)); first | done | fail)) rfl ?_ | (refine VO_bare rfl rfl rfl rfl ?_; refine VO_q (Q_call rfl ht0 (by (repeat (first | exact trivial | exact rfl | exact ⟨_, rfl⟩ | refine And.intro ?_ ?_)); first | done | fail)) rfl ?_) | refine VQ_run rfl rfl rfl rfl (Q_call rfl ht0 (by (repeat (first | exact trivial | exact rfl | exact ⟨_, rfl⟩ | refine And.intro ?_ ?_)); first | done | fail)) rfl ?_) | (first | refine VO_nil ?_ | refine VQ_nil ?_) | (first | refine V_seq_region ?_ | refine V_seq (V_seq_region ?_) | refine V_seq_draw tmix (by kernel_rfl) ?_ | refine V_seq (V_seq_draw tmix (by kernel_rfl) ?_) | refine V_region ?_ | refine V_draw tmix (by kernel_rfl) ?_))
    (first | refine V_cond rfl (fun hc3 => ?_) (fun hc3 => ?_) | refine V_seq (V_cond rfl (fun hc3 => ?_) (fun hc3 => ?_)))
    · simp at hc3
    refine V_skip ?_
    clear hc3
    repeat (first | refine VO_d ?_ | refine VQ_d ?_ | (first | refine VO_q (Q_index rfl rfl TE.h TI.h (by omega) hge) rfl ?_ | refine VQ_q (Q_index rfl rfl TE.h TI.h (by omega) hge) rfl ?_ | (refine VO_bare rfl rfl rfl rfl ?_; refine VO_q (Q_index rfl rfl TE.h TI.h (by omega) hge) rfl ?_) | refine VQ_run rfl rfl rfl rfl (Q_index rfl rfl TE.h TI.h (by omega) hge) rfl ?_) | (first | refine VO_nil ?_ | refine VQ_nil ?_) | (first | refine V_seq_region ?_ | refine V_seq (V_seq_region ?_) | refine V_seq_draw tmix (by kernel_rfl) ?_ | refine V_seq (V_seq_draw tmix (by kernel_rfl) ?_) | refine V_region ?_ | refine V_draw tmix (by kernel_rfl) ?_))
    (first | refine V_cond rfl (fun hc3 => ?_) (fun hc3 => ?_) | refine V_seq (V_cond rfl (fun hc3 => ?_) (fun hc3 => ?_)))
    · simp at hc3
    refine V_skip ?_
    clear hc3
    have ht2 := markText_all (kk + 1 + 1) (by omega) (by omega)
    repeat (first | refine VO_d ?_ | refine VQ_d ?_ | (first | refine VO_q (Q_index rfl rfl TE.h TI.h (by omega) hge) rfl ?_ | refine VQ_q (Q_index rfl rfl TE.h TI.h (by omega) hge) rfl ?_ | (refine VO_bare rfl rfl rfl rfl ?_; refine VO_q (Q_index rfl rfl TE.h TI.h (by omega) hge) rfl ?_) | refine VQ_run rfl rfl rfl rfl (Q_index rfl rfl TE.h TI.h (by omega) hge) rfl ?_) | (first | refine VO_q (Q_call rfl ht2 (by (repeat (first | exact trivial | exact rfl | exact ⟨_, rfl⟩ | refine And.intro ?_ ?_)); first | done | fail)) rfl ?_ | refine VQ_q (Q_call rfl ht2 (by (repeat (first | exact trivial | exact rfl | exact ⟨_, rfl⟩ | refine And.intro ?_ ?_)); first | done | fail)) rfl ?_ | (refine VO_bare rfl rfl rfl rfl ?_; refine VO_q (Q_call rfl ht2 (by (repeat (first | exact trivial | exact rfl | exact ⟨_, rfl⟩ | refine And.intro ?_ ?_)); first | done | fail)) rfl ?_) | refine VQ_run rfl rfl rfl rfl (Q_call rfl ht2 (by (repeat (first | exact trivial | exact rfl | exact ⟨_, rfl⟩ | refine And.intro ?_ ?_)); first | done | fail)) rfl ?_) | (first | refine VO_nil ?_ | refine VQ_nil ?_) | (first | refine V_seq_region ?_ | refine V_seq (V_seq_region ?_) | refine V_seq_draw tmix (by kernel_rfl) ?_ | refine V_seq (V_seq_draw tmix (by kernel_rfl) ?_) | refine V_region ?_ | refine V_draw tmix (by kernel_rfl) ?_))
    (first | refine V_cond rfl (fun hc3 => ?_) (fun hc3 => ?_) | refine V_seq (V_cond rfl (fun hc3 => ?_) (fun hc3 => ?_)))
    · simp at hc3
    refine V_skip ?_
    clear hc3
    have hm3 := ih0 a_0_0 a_0_1_0 a_0_1_1 a_0_1_2 a_1 hmem (kk + 1 + 1 + 1) (by omega) (by simp only [U.lf]; omega)
    change SpecP _ _ [.d (.sl 3 (U.mks a_0_1_2 (kk + 1 + 1 + 1)).1), _] [.i .i64 (U.mks a_0_1_2 (kk + 1 + 1 + 1)).2] at hm3
    have hs3 := mks_snd a_0_1_2 (kk + 1 + 1 + 1)
    repeat (first | refine VO_d ?_ | refine VQ_d ?_ | (first | refine VO_q (Q_index rfl rfl TE.h TI.h (by omega) hge) rfl ?_ | refine VQ_q (Q_index rfl rfl TE.h TI.h (by omega) hge) rfl ?_ | (refine VO_bare rfl rfl rfl rfl ?_; refine VO_q (Q_index rfl rfl TE.h TI.h (by omega) hge) rfl ?_) | refine VQ_run rfl rfl rfl rfl (Q_index rfl rfl TE.h TI.h (by omega) hge) rfl ?_) | (first | refine VO_q (Q_call rfl hm3 (by (repeat (first | exact trivial | exact rfl | exact ⟨_, rfl⟩ | refine And.intro ?_ ?_)); first | done | fail)) rfl ?_ | refine VQ_q (Q_call rfl hm3 (by (repeat (first | exact trivial | exact rfl | exact ⟨_, rfl⟩ | refine And.intro ?_ ?_)); first | done | fail)) rfl ?_ | (refine VO_bare rfl rfl rfl rfl ?_; refine VO_q (Q_call rfl hm3 (by (repeat (first | exact trivial | exact rfl | exact ⟨_, rfl⟩ | refine And.intro ?_ ?_)); first | done | fail)) rfl ?_) | refine VQ_run rfl rfl rfl rfl (Q_call rfl hm3 (by (repeat (first | exact trivial | exact rfl | exact ⟨_, rfl⟩ | refine And.intro ?_ ?_)); first | done | fail)) rfl ?_) | (first | refine VO_nil ?_ | refine VQ_nil ?_) | (first | refine V_seq_region ?_ | refine V_seq (V_seq_region ?_) | refine V_seq_draw tmix (by kernel_rfl) ?_ | refine V_seq (V_seq_draw tmix (by kernel_rfl) ?_) | refine V_region ?_ | refine V_draw tmix (by kernel_rfl) ?_))
    (first | refine V_cond rfl (fun hc3 => ?_) (fun hc3 => ?_) | refine V_seq (V_cond rfl (fun hc3 => ?_) (fun hc3 => ?_)))
    · exfalso; simp only [decide_eq_true_eq] at hc3; change (U.mks a_0_1_2 (kk + 1 + 1 + 1)).2 < 0 at hc3; omega
    refine V_skip ?_
    clear hc3
    repeat (first | refine VO_d ?_ | refine VQ_d ?_ | (first | refine VO_q (Q_index rfl rfl TE.h TI.h (by omega) hge) rfl ?_ | refine VQ_q (Q_index rfl rfl TE.h TI.h (by omega) hge) rfl ?_ | (refine VO_bare rfl rfl rfl rfl ?_; refine VO_q (Q_index rfl rfl TE.h TI.h (by omega) hge) rfl ?_) | refine VQ_run rfl rfl rfl rfl (Q_index rfl rfl TE.h TI.h (by omega) hge) rfl ?_) | (first | refine VO_nil ?_ | refine VQ_nil ?_) | (first | refine V_seq_region ?_ | refine V_seq (V_seq_region ?_) | refine V_seq_draw tmix (by kernel_rfl) ?_ | refine V_seq (V_seq_draw tmix (by kernel_rfl) ?_) | refine V_region ?_ | refine V_draw tmix (by kernel_rfl) ?_))
    (first | refine V_cond rfl (fun hc3 => ?_) (fun hc3 => ?_) | refine V_seq (V_cond rfl (fun hc3 => ?_) (fun hc3 => ?_)))
    · simp at hc3
    refine V_skip ?_
    clear hc3
    repeat (first | refine VO_d ?_ | refine VQ_d ?_  | (first | refine VO_nil ?_ | refine VQ_nil ?_) | (first | refine V_seq_region ?_ | refine V_seq (V_seq_region ?_) | refine V_seq_draw tmix (by kernel_rfl) ?_ | refine V_seq (V_seq_draw tmix (by kernel_rfl) ?_) | refine V_region ?_ | refine V_draw tmix (by kernel_rfl) ?_))
    refine ⟨i + 1, by omega, by omega, ⟨rfl, ⟨⟨rfl, rfl⟩, ⟨?_, rfl⟩, ⟨rfl, rfl⟩, trivial⟩, ⟨[], rfl⟩, rfl⟩⟩
    rw [hnext]
    rfl
  · refine V_exit ?_
    simp only [decide_eq_false_iff_not] at hc2
    have hkl : i = us.length := by omega
    subst hkl
    show V _ _ _ _ _
    repeat (first | refine VO_d ?_ | refine VQ_d ?_  | (first | refine VO_nil ?_ | refine VQ_nil ?_) | (first | refine V_seq_region ?_ | refine V_seq (V_seq_region ?_) | refine V_seq_draw tmix (by kernel_rfl) ?_ | refine V_seq (V_seq_draw tmix (by kernel_rfl) ?_) | refine V_region ?_ | refine V_draw tmix (by kernel_rfl) ?_))
    refine V_ret ?_
    refine ⟨trivial, ⟨_, rfl, ?_⟩, trivial⟩
    rw [List.take_length]
    exact rfl

theorem heldObligation_grp (u : U) : (∀ us, u = .sl 5 us → us.length ≤ big → (∀ x ∈ us, wt (.st 23) x) → PHe 48 u) := by
  refine U.ind (M := fun u => (∀ us, u = .sl 5 us → us.length ≤ big → (∀ x ∈ us, wt (.st 23) x) → PHe 48 u)) (fun u ih => ?_) u
  refine ?_
  · rintro us rfl hl hz
    exact heldObligationS_step hl hz (fun a_0_0 a_0_1_0 a_0_1_1 a_0_1_2 a_1 ha => by obtain ⟨_, _, hx_a, qa_0, qa_1⟩ := inv_Obligation (hz _ ha); cases hx_a; obtain ⟨_, _, hx_a_0, qa_0_0, qa_0_1⟩ := inv_Bound qa_0; cases hx_a_0; obtain ⟨_, _, _, hx_a_0_1, qa_0_1_0, qa_0_1_1, qa_0_1_2⟩ := inv_Type qa_0_1; cases hx_a_0_1; exact heldTypeS_all qa_0_1_2)
theorem heldObligationS_all {us : List U} (h : us.length ≤ big ∧ ∀ x ∈ us, wt (.st 23) x) : PHe 48 (.sl 5 us) := (heldObligation_grp (.sl 5 us)) us rfl h.1 h.2
set_option maxRecDepth 8000 in
set_option maxHeartbeats 8000000 in
theorem heldInferState_step {f0 : Int} {f1 : Int} {f2 : Int} {f3 : List U} {f4 : List U} {f5 : List U} {f6 : Int} {f7 : Int} (h3 : PHe 46 (.sl 4 f3)) (h4 : PHe 47 (.sl 7 f4)) (h5 : PHe 48 (.sl 5 f5)) : PHe 14 (.st [.i .i64 f0, .i .i64 f1, .i .i64 f2, .sl 4 f3, .sl 7 f4, .sl 5 f5, .i .i64 f6, .i .i64 f7]) := by
  intro k0 hk0 hk1
  have hlf : ((.st [.i .i64 f0, .i .i64 f1, .i .i64 f2, .sl 4 f3, .sl 7 f4, .sl 5 f5, .i .i64 f6, .i .i64 f7]) : U).lf = 0 + 1 + 1 + 1 + U.lfs f3 + U.lfs f4 + U.lfs f5 + 1 + 1 := by simp [U.lf, U.lfs] <;> omega
  rw [hlf] at hk1
  show SpecP _ _ [.d (.st [.i .i64 f0, .i .i64 f1, .i .i64 f2, .sl 4 (U.mks f3 (k0)).1, .sl 7 (U.mks f4 ((U.mks f3 (k0)).2)).1, .sl 5 (U.mks f5 ((U.mks f4 ((U.mks f3 (k0)).2)).2)).1, .i .i64 f6, .i .i64 f7]), .d (.i .i64 k0)] [.i .i64 ((U.mks f5 ((U.mks f4 ((U.mks f3 (k0)).2)).2)).2)]
  refine SpecP_intro Tryd.func14 rfl (by kernel_rfl) rfl fun A _ => ?_
  have hm3 := h3 (k0) (by omega) (by simp only [U.lf, U.lfs]; omega)
  have hs_f3 := mks_snd f3 (k0)
  repeat (first | refine VO_d ?_ | refine VQ_d ?_ | (first | refine VO_q (Q_call rfl hm3 (by (repeat (first | exact trivial | exact rfl | exact ⟨_, rfl⟩ | refine And.intro ?_ ?_)); first | done | fail)) rfl ?_ | refine VQ_q (Q_call rfl hm3 (by (repeat (first | exact trivial | exact rfl | exact ⟨_, rfl⟩ | refine And.intro ?_ ?_)); first | done | fail)) rfl ?_ | (refine VO_bare rfl rfl rfl rfl ?_; refine VO_q (Q_call rfl hm3 (by (repeat (first | exact trivial | exact rfl | exact ⟨_, rfl⟩ | refine And.intro ?_ ?_)); first | done | fail)) rfl ?_) | refine VQ_run rfl rfl rfl rfl (Q_call rfl hm3 (by (repeat (first | exact trivial | exact rfl | exact ⟨_, rfl⟩ | refine And.intro ?_ ?_)); first | done | fail)) rfl ?_) | (first | refine VO_nil ?_ | refine VQ_nil ?_) | (first | refine V_seq_region ?_ | refine V_seq (V_seq_region ?_) | refine V_seq_draw tmix (by kernel_rfl) ?_ | refine V_seq (V_seq_draw tmix (by kernel_rfl) ?_) | refine V_region ?_ | refine V_draw tmix (by kernel_rfl) ?_))
  (first | refine V_cond rfl (fun hc3 => ?_) (fun hc3 => ?_) | refine V_seq (V_cond rfl (fun hc3 => ?_) (fun hc3 => ?_)))
  · exfalso; simp only [decide_eq_true_eq] at hc3; change (U.mks f3 (k0)).2 < 0 at hc3; omega
  refine V_skip ?_
  clear hc3
  have hm4 := h4 ((U.mks f3 (k0)).2) (by omega) (by simp only [U.lf, U.lfs]; omega)
  have hs_f4 := mks_snd f4 ((U.mks f3 (k0)).2)
  repeat (first | refine VO_d ?_ | refine VQ_d ?_ | (first | refine VO_q (Q_call rfl hm4 (by (repeat (first | exact trivial | exact rfl | exact ⟨_, rfl⟩ | refine And.intro ?_ ?_)); first | done | fail)) rfl ?_ | refine VQ_q (Q_call rfl hm4 (by (repeat (first | exact trivial | exact rfl | exact ⟨_, rfl⟩ | refine And.intro ?_ ?_)); first | done | fail)) rfl ?_ | (refine VO_bare rfl rfl rfl rfl ?_; refine VO_q (Q_call rfl hm4 (by (repeat (first | exact trivial | exact rfl | exact ⟨_, rfl⟩ | refine And.intro ?_ ?_)); first | done | fail)) rfl ?_) | refine VQ_run rfl rfl rfl rfl (Q_call rfl hm4 (by (repeat (first | exact trivial | exact rfl | exact ⟨_, rfl⟩ | refine And.intro ?_ ?_)); first | done | fail)) rfl ?_) | (first | refine VO_nil ?_ | refine VQ_nil ?_) | (first | refine V_seq_region ?_ | refine V_seq (V_seq_region ?_) | refine V_seq_draw tmix (by kernel_rfl) ?_ | refine V_seq (V_seq_draw tmix (by kernel_rfl) ?_) | refine V_region ?_ | refine V_draw tmix (by kernel_rfl) ?_))
  (first | refine V_cond rfl (fun hc3 => ?_) (fun hc3 => ?_) | refine V_seq (V_cond rfl (fun hc3 => ?_) (fun hc3 => ?_)))
  · exfalso; simp only [decide_eq_true_eq] at hc3; change (U.mks f4 ((U.mks f3 (k0)).2)).2 < 0 at hc3; omega
  refine V_skip ?_
  clear hc3
  have hm5 := h5 ((U.mks f4 ((U.mks f3 (k0)).2)).2) (by omega) (by simp only [U.lf, U.lfs]; omega)
  have hs_f5 := mks_snd f5 ((U.mks f4 ((U.mks f3 (k0)).2)).2)
  repeat (first | refine VO_d ?_ | refine VQ_d ?_ | (first | refine VO_q (Q_call rfl hm5 (by (repeat (first | exact trivial | exact rfl | exact ⟨_, rfl⟩ | refine And.intro ?_ ?_)); first | done | fail)) rfl ?_ | refine VQ_q (Q_call rfl hm5 (by (repeat (first | exact trivial | exact rfl | exact ⟨_, rfl⟩ | refine And.intro ?_ ?_)); first | done | fail)) rfl ?_ | (refine VO_bare rfl rfl rfl rfl ?_; refine VO_q (Q_call rfl hm5 (by (repeat (first | exact trivial | exact rfl | exact ⟨_, rfl⟩ | refine And.intro ?_ ?_)); first | done | fail)) rfl ?_) | refine VQ_run rfl rfl rfl rfl (Q_call rfl hm5 (by (repeat (first | exact trivial | exact rfl | exact ⟨_, rfl⟩ | refine And.intro ?_ ?_)); first | done | fail)) rfl ?_) | (first | refine VO_nil ?_ | refine VQ_nil ?_) | (first | refine V_seq_region ?_ | refine V_seq (V_seq_region ?_) | refine V_seq_draw tmix (by kernel_rfl) ?_ | refine V_seq (V_seq_draw tmix (by kernel_rfl) ?_) | refine V_region ?_ | refine V_draw tmix (by kernel_rfl) ?_))
  (first | refine V_cond rfl (fun hc3 => ?_) (fun hc3 => ?_) | refine V_seq (V_cond rfl (fun hc3 => ?_) (fun hc3 => ?_)))
  · exfalso; simp only [decide_eq_true_eq] at hc3; change (U.mks f5 ((U.mks f4 ((U.mks f3 (k0)).2)).2)).2 < 0 at hc3; omega
  refine V_skip ?_
  clear hc3
  repeat (first | refine VO_d ?_ | refine VQ_d ?_  | (first | refine VO_nil ?_ | refine VQ_nil ?_) | (first | refine V_seq_region ?_ | refine V_seq (V_seq_region ?_) | refine V_seq_draw tmix (by kernel_rfl) ?_ | refine V_seq (V_seq_draw tmix (by kernel_rfl) ?_) | refine V_region ?_ | refine V_draw tmix (by kernel_rfl) ?_))
  refine V_ret ?_
  exact ⟨trivial, ⟨_, rfl, rfl⟩, trivial⟩

theorem heldInferState_all {u : U} (h : wt (.st 24) u) : PHe 14 u := by
  obtain ⟨f0, f1, f2, f3, f4, f5, f6, f7, rfl, p0, p1, p2, p3, p4, p5, p6, p7⟩ := inv_InferState h
  exact heldInferState_step (heldBindingS_all p3) (heldEquationS_all p4) (heldObligationS_all p5)

end Go.Proofs.YthojhakapbfbiaaDoor

