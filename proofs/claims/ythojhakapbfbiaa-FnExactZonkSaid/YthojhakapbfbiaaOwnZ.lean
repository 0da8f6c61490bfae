/- The contracts of the laws' own helpers that own or turn memory. Written by a program of mine (famO.py). -/
import Derived.Test.YthojhakapbfbiaaFamZ
import Derived.Test.YthojhakapbfbiaaEng28
set_option linter.unusedVariables false
set_option linter.unusedSimpArgs false
namespace Go.Proofs.Ythojhakapbfbiaa
open Go Go.Eng
attribute [local irreducible] V VO VQ VY Quiet SpecP SpecO MSpec
abbrev PToO (f : Nat) (es : List TypeId) (u : U) : Prop := W u ≤ 1048576 → SpecO Try.prog f [.d u] es [u]
abbrev PMk (f : Nat) (u : U) : Prop := ∀ k : Int, 0 < k → k + u.lf ≤ 4611686018427387904 → MSpec Try.prog f u k (u.mkt k).1 (u.mkt k).2
abbrev PHe (f : Nat) (u : U) : Prop := ∀ k : Int, 0 < k → k + u.lf ≤ 4611686018427387904 → SpecP Try.prog f [.d (u.mkt k).1, .d (.i .i64 k)] [.i .i64 (u.mkt k).2]

theorem zt_Type : ZeroT (.st [.i .i64 0, .s [], .sl 3 []]) [.int .i64 0, .string ⟨#[]⟩, .slice none 0 0] := zeroT (by repeat constructor) (by repeat constructor)
set_option maxHeartbeats 4000000 in
theorem toOTypeS_step {us : List U} (hz : ∀ a ∈ us, wt (.st 1) a) (ih : ∀ a ∈ us, PToO 9 [34] a) : PToO 36 [34] (.sl 3 us) := by
  intro hw
  have hW : W (.sl 3 us) = us.length + Ws us := rfl
  refine SpecO_intro Try.func36 rfl (by kernel_rfl) rfl (by simp) fun A _ => ?_
  repeat (first | refine VO_d ?_ | refine VQ_d ?_  | (first | refine VO_nil ?_ | refine VQ_nil ?_) | (first | refine V_seq_region ?_ | refine V_seq (V_seq_region ?_) | refine V_seq_draw tmix (by kernel_rfl) ?_ | refine V_seq (V_seq_draw tmix (by kernel_rfl) ?_) | refine V_region ?_ | refine V_draw tmix (by kernel_rfl) ?_))
  refine VR_make rfl rfl TE.h TI.h TZ.h rfl zt_Type (by omega) (by omega) (by rw [big_eq]; omega) (by omega) rfl (by repeat constructor) ?_
  rw [Int.toNat_natCast, fillU_zero]
  repeat (first | refine VO_d ?_ | refine VQ_d ?_  | (first | refine VO_nil ?_ | refine VQ_nil ?_) | (first | refine V_seq_region ?_ | refine V_seq (V_seq_region ?_) | refine V_seq_draw tmix (by kernel_rfl) ?_ | refine V_seq (V_seq_draw tmix (by kernel_rfl) ?_) | refine V_region ?_ | refine V_draw tmix (by kernel_rfl) ?_))
  refine V_block ?_
  refine V_loop (α := Nat)
    (fun k => ⟨[(0, .d (.sl 3 us)), (3, .sl 0 0), (4, .d (.i .i64 k))], [.own 34 3 0 (fillU us (.st [.i .i64 0, .s [], .sl 3 []]) k)], Try.f36.ntmps⟩)
    (fun k => k ≤ us.length)
    (fun k => us.length - k) 0 ⟨rfl, ⟨⟨rfl, rfl⟩, ⟨rfl, rfl⟩, ⟨rfl, rfl⟩, trivial⟩, ⟨[], rfl⟩, rfl⟩ (by simp) ?_
  intro k hk
  repeat (first | refine VO_d ?_ | refine VQ_d ?_  | (first | refine VO_nil ?_ | refine VQ_nil ?_) | (first | refine V_seq_region ?_ | refine V_seq (V_seq_region ?_) | refine V_seq_draw tmix (by kernel_rfl) ?_ | refine V_seq (V_seq_draw tmix (by kernel_rfl) ?_) | refine V_region ?_ | refine V_draw tmix (by kernel_rfl) ?_))
  (first | refine V_cond rfl (fun hc2 => ?_) (fun hc2 => ?_) | refine V_seq (V_cond rfl (fun hc2 => ?_) (fun hc2 => ?_)))
  · refine V_skip ?_
    simp only [decide_eq_true_eq] at hc2
    have hkl : k < us.length := by omega
    obtain ⟨a, hget⟩ : ∃ a, us[k]? = some a := ⟨_, List.getElem?_eq_getElem hkl⟩
    have hmem := List.mem_of_getElem? hget
    have hwk := W_le_of_mem hmem
    have hfl : (fillU us (.st [.i .i64 0, .s [], .sl 3 []]) k).length = us.length := fillU_length hk
    have hset := fillU_set (zu := .st [.i .i64 0, .s [], .sl 3 []]) hget
    have hcall := ih a hmem (by omega)
    have hwa := hz a hmem
    obtain ⟨a_0, a_1, a_2, rfl, hwa_0, hwa_1, hwa_2⟩ := inv_Type hwa
    refine V_seq (V_block ?_)
    repeat (first | refine VO_d ?_ | refine VQ_d ?_ | (first | refine VO_q (Q_index rfl rfl TE.h TI.h (by omega) hget) rfl ?_ | refine VQ_q (Q_index rfl rfl TE.h TI.h (by omega) hget) rfl ?_ | (refine VO_bare rfl rfl rfl rfl ?_; refine VO_q (Q_index rfl rfl TE.h TI.h (by omega) hget) rfl ?_) | refine VQ_run rfl rfl rfl rfl (Q_index rfl rfl TE.h TI.h (by omega) hget) rfl ?_) | (first | refine VO_q (Q_index_own rfl rfl .own rfl TE.h TI.h (by omega) (by omega)) rfl ?_ | refine VQ_q (Q_index_own rfl rfl .own rfl TE.h TI.h (by omega) (by omega)) rfl ?_ | (refine VO_bare rfl rfl rfl rfl ?_; refine VO_q (Q_index_own rfl rfl .own rfl TE.h TI.h (by omega) (by omega)) rfl ?_) | refine VQ_run rfl rfl rfl rfl (Q_index_own rfl rfl .own rfl TE.h TI.h (by omega) (by omega)) rfl ?_) | (first | refine VO_nil ?_ | refine VQ_nil ?_) | (first | refine V_seq_region ?_ | refine V_seq (V_seq_region ?_) | refine V_seq_draw tmix (by kernel_rfl) ?_ | refine V_seq (V_seq_draw tmix (by kernel_rfl) ?_) | refine V_region ?_ | refine V_draw tmix (by kernel_rfl) ?_))
    refine VO_callO rfl hcall (by (repeat (first | exact trivial | exact rfl | exact ⟨_, rfl⟩ | refine And.intro ?_ ?_)); first | done | fail) (by repeat constructor) (by repeat (first | exact rfl | constructor)) (by repeat constructor) rfl ?_
    repeat (first | refine VO_d ?_ | refine VQ_d ?_ | (first | refine VO_q (Q_index rfl rfl TE.h TI.h (by omega) hget) rfl ?_ | refine VQ_q (Q_index rfl rfl TE.h TI.h (by omega) hget) rfl ?_ | (refine VO_bare rfl rfl rfl rfl ?_; refine VO_q (Q_index rfl rfl TE.h TI.h (by omega) hget) rfl ?_) | refine VQ_run rfl rfl rfl rfl (Q_index rfl rfl TE.h TI.h (by omega) hget) rfl ?_) | (first | refine VO_q (Q_index_own rfl rfl .own rfl TE.h TI.h (by omega) (by omega)) rfl ?_ | refine VQ_q (Q_index_own rfl rfl .own rfl TE.h TI.h (by omega) (by omega)) rfl ?_ | (refine VO_bare rfl rfl rfl rfl ?_; refine VO_q (Q_index_own rfl rfl .own rfl TE.h TI.h (by omega) (by omega)) rfl ?_) | refine VQ_run rfl rfl rfl rfl (Q_index_own rfl rfl .own rfl TE.h TI.h (by omega) (by omega)) rfl ?_) | (first | refine VO_nil ?_ | refine VQ_nil ?_) | (first | refine V_seq_region ?_ | refine V_seq (V_seq_region ?_) | refine V_seq_draw tmix (by kernel_rfl) ?_ | refine V_seq (V_seq_draw tmix (by kernel_rfl) ?_) | refine V_region ?_ | refine V_draw tmix (by kernel_rfl) ?_))
    refine VR_store (u := .st [.i .i64 a_0, .s a_1, .sl 3 a_2]) rfl rfl (by repeat (first | exact rfl | constructor)) (by decide) TI.h rfl (by omega) (by repeat constructor) (by repeat constructor) ?_
    rw [Int.toNat_natCast, hset]
    repeat (first | refine VO_d ?_ | refine VQ_d ?_  | (first | refine VO_nil ?_ | refine VQ_nil ?_) | (first | refine V_seq_region ?_ | refine V_seq (V_seq_region ?_) | refine V_seq_draw tmix (by kernel_rfl) ?_ | refine V_seq (V_seq_draw tmix (by kernel_rfl) ?_) | refine V_region ?_ | refine V_draw tmix (by kernel_rfl) ?_))
    refine ⟨k + 1, by omega, by omega, ⟨rfl, ⟨⟨rfl, rfl⟩, ⟨rfl, rfl⟩, ⟨rfl, rfl⟩, trivial⟩, ⟨_, rfl⟩, rfl⟩⟩
  · refine V_exit ?_
    simp only [decide_eq_false_iff_not] at hc2
    have hkl : k = us.length := by omega
    subst hkl
    show V _ _ _ _ _
    repeat (first | refine VO_d ?_ | refine VQ_d ?_  | (first | refine VO_nil ?_ | refine VQ_nil ?_) | (first | refine V_seq_region ?_ | refine V_seq (V_seq_region ?_) | refine V_seq_draw tmix (by kernel_rfl) ?_ | refine V_seq (V_seq_draw tmix (by kernel_rfl) ?_) | refine V_region ?_ | refine V_draw tmix (by kernel_rfl) ?_))
    refine V_cast [.own 34 3 0 us] (by rw [fillU_all]) ?_
    refine V_ret ?_
    exact ⟨trivial, _, (by repeat (first | exact rfl | exact ResV_ag rfl rfl TI.h rfl rfl | exact ResV_one rfl rfl TI.h rfl | constructor)), by decide⟩

set_option maxHeartbeats 4000000 in
theorem toOType_step {f0 : Int} {f1 : List UInt8} {f2 : List U} (h1 : f1.length ≤ big) (h2 : PToO 36 [34] (.sl 3 f2)) : PToO 9 [34] (.st [.i .i64 f0, .s f1, .sl 3 f2]) := by
  intro hw
  have hW : W (.st [.i .i64 f0, .s f1, .sl 3 f2]) = 0 + (f1.length + (W (U.sl 3 f2) + 0)) := rfl
  have c2 := h2 (by omega)
  clear h2
  clear hW hw
  refine SpecO_intro Try.func9 rfl (by kernel_rfl) rfl (by simp) fun A _ => ?_
  repeat (first | refine VO_d ?_ | refine VQ_d ?_  | (first | refine VO_nil ?_ | refine VQ_nil ?_) | (first | refine V_seq_region ?_ | refine V_seq (V_seq_region ?_) | refine V_seq_draw tmix (by kernel_rfl) ?_ | refine V_seq (V_seq_draw tmix (by kernel_rfl) ?_) | refine V_region ?_ | refine V_draw tmix (by kernel_rfl) ?_))
  refine VO_callO rfl c2 (by (repeat (first | exact trivial | exact rfl | exact ⟨_, rfl⟩ | refine And.intro ?_ ?_)); first | done | fail) (by repeat constructor) (by repeat (first | exact rfl | constructor)) (by repeat constructor) rfl ?_
  repeat (first | refine VO_d ?_ | refine VQ_d ?_  | (first | refine VO_nil ?_ | refine VQ_nil ?_) | (first | refine V_seq_region ?_ | refine V_seq (V_seq_region ?_) | refine V_seq_draw tmix (by kernel_rfl) ?_ | refine V_seq (V_seq_draw tmix (by kernel_rfl) ?_) | refine V_region ?_ | refine V_draw tmix (by kernel_rfl) ?_))
  refine V_ret ?_
  exact ⟨trivial, _, (by repeat (first | exact rfl | exact ResV_ag rfl rfl TI.h rfl rfl | exact ResV_one rfl rfl TI.h rfl | constructor)), by decide⟩

theorem toOType_grp (u : U) : (wt (.st 1) u → PToO 9 [34] u) := by
  refine U.ind (M := fun u => (wt (.st 1) u → PToO 9 [34] u)) (fun u ih => ?_) u
  refine ?_
  · intro h
    obtain ⟨f0, f1, f2, rfl, p0, p1, p2⟩ := inv_Type h
    exact toOType_step p1 (toOTypeS_step p2.2 (fun a ha => (ih a (by have := nn_of_mem ha; simp only [U.nn, U.nns]; omega)) (p2.2 a ha)))
theorem toOType_all {u : U} (h : wt (.st 1) u) : PToO 9 [34] u := (toOType_grp u) h
theorem toOTypeS_all {us : List U} (h : us.length ≤ big ∧ ∀ x ∈ us, wt (.st 1) x) : PToO 36 [34] (.sl 3 us) := toOTypeS_step h.2 (fun a ha => toOType_all (h.2 a ha))
theorem zt_Binding : ZeroT (.st [.s [], .st [.i .i64 0, .s [], .sl 3 []]]) [.string ⟨#[]⟩, .int .i64 0, .string ⟨#[]⟩, .slice none 0 0] := zeroT (by repeat constructor) (by repeat constructor)
set_option maxHeartbeats 4000000 in
theorem toOBindingS_step {us : List U} (hz : ∀ a ∈ us, wt (.st 2) a) (ih : ∀ a ∈ us, PToO 51 [34] a) : PToO 19 [96] (.sl 4 us) := by
  intro hw
  have hW : W (.sl 4 us) = us.length + Ws us := rfl
  refine SpecO_intro Try.func19 rfl (by kernel_rfl) rfl (by simp) fun A _ => ?_
  repeat (first | refine VO_d ?_ | refine VQ_d ?_  | (first | refine VO_nil ?_ | refine VQ_nil ?_) | (first | refine V_seq_region ?_ | refine V_seq (V_seq_region ?_) | refine V_seq_draw tmix (by kernel_rfl) ?_ | refine V_seq (V_seq_draw tmix (by kernel_rfl) ?_) | refine V_region ?_ | refine V_draw tmix (by kernel_rfl) ?_))
  refine VR_make rfl rfl TE.h TI.h TZ.h rfl zt_Binding (by omega) (by omega) (by rw [big_eq]; omega) (by omega) rfl (by repeat constructor) ?_
  rw [Int.toNat_natCast, fillU_zero]
  repeat (first | refine VO_d ?_ | refine VQ_d ?_  | (first | refine VO_nil ?_ | refine VQ_nil ?_) | (first | refine V_seq_region ?_ | refine V_seq (V_seq_region ?_) | refine V_seq_draw tmix (by kernel_rfl) ?_ | refine V_seq (V_seq_draw tmix (by kernel_rfl) ?_) | refine V_region ?_ | refine V_draw tmix (by kernel_rfl) ?_))
  refine V_block ?_
  refine V_loop (α := Nat)
    (fun k => ⟨[(0, .d (.sl 4 us)), (3, .sl 0 0), (4, .d (.i .i64 k))], [.own 96 4 0 (fillU us (.st [.s [], .st [.i .i64 0, .s [], .sl 3 []]]) k)], Try.f19.ntmps⟩)
    (fun k => k ≤ us.length)
    (fun k => us.length - k) 0 ⟨rfl, ⟨⟨rfl, rfl⟩, ⟨rfl, rfl⟩, ⟨rfl, rfl⟩, trivial⟩, ⟨[], rfl⟩, rfl⟩ (by simp) ?_
  intro k hk
  repeat (first | refine VO_d ?_ | refine VQ_d ?_  | (first | refine VO_nil ?_ | refine VQ_nil ?_) | (first | refine V_seq_region ?_ | refine V_seq (V_seq_region ?_) | refine V_seq_draw tmix (by kernel_rfl) ?_ | refine V_seq (V_seq_draw tmix (by kernel_rfl) ?_) | refine V_region ?_ | refine V_draw tmix (by kernel_rfl) ?_))
  (first | refine V_cond rfl (fun hc2 => ?_) (fun hc2 => ?_) | refine V_seq (V_cond rfl (fun hc2 => ?_) (fun hc2 => ?_)))
  · refine V_skip ?_
    simp only [decide_eq_true_eq] at hc2
    have hkl : k < us.length := by omega
    obtain ⟨a, hget⟩ : ∃ a, us[k]? = some a := ⟨_, List.getElem?_eq_getElem hkl⟩
    have hmem := List.mem_of_getElem? hget
    have hwk := W_le_of_mem hmem
    have hfl : (fillU us (.st [.s [], .st [.i .i64 0, .s [], .sl 3 []]]) k).length = us.length := fillU_length hk
    have hset := fillU_set (zu := .st [.s [], .st [.i .i64 0, .s [], .sl 3 []]]) hget
    have hcall := ih a hmem (by omega)
    have hwa := hz a hmem
    obtain ⟨a_0, a_1, rfl, hwa_0, hwa_1⟩ := inv_Binding hwa
    obtain ⟨a_1_0, a_1_1, a_1_2, rfl, hwa_1_0, hwa_1_1, hwa_1_2⟩ := inv_Type hwa_1
    refine V_seq (V_block ?_)
    repeat (first | refine VO_d ?_ | refine VQ_d ?_ | (first | refine VO_q (Q_index rfl rfl TE.h TI.h (by omega) hget) rfl ?_ | refine VQ_q (Q_index rfl rfl TE.h TI.h (by omega) hget) rfl ?_ | (refine VO_bare rfl rfl rfl rfl ?_; refine VO_q (Q_index rfl rfl TE.h TI.h (by omega) hget) rfl ?_) | refine VQ_run rfl rfl rfl rfl (Q_index rfl rfl TE.h TI.h (by omega) hget) rfl ?_) | (first | refine VO_q (Q_index_own rfl rfl .own rfl TE.h TI.h (by omega) (by omega)) rfl ?_ | refine VQ_q (Q_index_own rfl rfl .own rfl TE.h TI.h (by omega) (by omega)) rfl ?_ | (refine VO_bare rfl rfl rfl rfl ?_; refine VO_q (Q_index_own rfl rfl .own rfl TE.h TI.h (by omega) (by omega)) rfl ?_) | refine VQ_run rfl rfl rfl rfl (Q_index_own rfl rfl .own rfl TE.h TI.h (by omega) (by omega)) rfl ?_) | (first | refine VO_nil ?_ | refine VQ_nil ?_) | (first | refine V_seq_region ?_ | refine V_seq (V_seq_region ?_) | refine V_seq_draw tmix (by kernel_rfl) ?_ | refine V_seq (V_seq_draw tmix (by kernel_rfl) ?_) | refine V_region ?_ | refine V_draw tmix (by kernel_rfl) ?_))
    refine VO_callO rfl hcall (by (repeat (first | exact trivial | exact rfl | exact ⟨_, rfl⟩ | refine And.intro ?_ ?_)); first | done | fail) (by repeat constructor) (by repeat (first | exact rfl | constructor)) (by repeat constructor) rfl ?_
    repeat (first | refine VO_d ?_ | refine VQ_d ?_ | (first | refine VO_q (Q_index rfl rfl TE.h TI.h (by omega) hget) rfl ?_ | refine VQ_q (Q_index rfl rfl TE.h TI.h (by omega) hget) rfl ?_ | (refine VO_bare rfl rfl rfl rfl ?_; refine VO_q (Q_index rfl rfl TE.h TI.h (by omega) hget) rfl ?_) | refine VQ_run rfl rfl rfl rfl (Q_index rfl rfl TE.h TI.h (by omega) hget) rfl ?_) | (first | refine VO_q (Q_index_own rfl rfl .own rfl TE.h TI.h (by omega) (by omega)) rfl ?_ | refine VQ_q (Q_index_own rfl rfl .own rfl TE.h TI.h (by omega) (by omega)) rfl ?_ | (refine VO_bare rfl rfl rfl rfl ?_; refine VO_q (Q_index_own rfl rfl .own rfl TE.h TI.h (by omega) (by omega)) rfl ?_) | refine VQ_run rfl rfl rfl rfl (Q_index_own rfl rfl .own rfl TE.h TI.h (by omega) (by omega)) rfl ?_) | (first | refine VO_nil ?_ | refine VQ_nil ?_) | (first | refine V_seq_region ?_ | refine V_seq (V_seq_region ?_) | refine V_seq_draw tmix (by kernel_rfl) ?_ | refine V_seq (V_seq_draw tmix (by kernel_rfl) ?_) | refine V_region ?_ | refine V_draw tmix (by kernel_rfl) ?_))
    refine VR_store (u := .st [.s a_0, .st [.i .i64 a_1_0, .s a_1_1, .sl 3 a_1_2]]) rfl rfl (by repeat (first | exact rfl | constructor)) (by decide) TI.h rfl (by omega) (by repeat constructor) (by repeat constructor) ?_
    rw [Int.toNat_natCast, hset]
    repeat (first | refine VO_d ?_ | refine VQ_d ?_  | (first | refine VO_nil ?_ | refine VQ_nil ?_) | (first | refine V_seq_region ?_ | refine V_seq (V_seq_region ?_) | refine V_seq_draw tmix (by kernel_rfl) ?_ | refine V_seq (V_seq_draw tmix (by kernel_rfl) ?_) | refine V_region ?_ | refine V_draw tmix (by kernel_rfl) ?_))
    refine ⟨k + 1, by omega, by omega, ⟨rfl, ⟨⟨rfl, rfl⟩, ⟨rfl, rfl⟩, ⟨rfl, rfl⟩, trivial⟩, ⟨_, rfl⟩, rfl⟩⟩
  · refine V_exit ?_
    simp only [decide_eq_false_iff_not] at hc2
    have hkl : k = us.length := by omega
    subst hkl
    show V _ _ _ _ _
    repeat (first | refine VO_d ?_ | refine VQ_d ?_  | (first | refine VO_nil ?_ | refine VQ_nil ?_) | (first | refine V_seq_region ?_ | refine V_seq (V_seq_region ?_) | refine V_seq_draw tmix (by kernel_rfl) ?_ | refine V_seq (V_seq_draw tmix (by kernel_rfl) ?_) | refine V_region ?_ | refine V_draw tmix (by kernel_rfl) ?_))
    refine V_cast [.own 96 4 0 us] (by rw [fillU_all]) ?_
    refine V_ret ?_
    exact ⟨trivial, _, (by repeat (first | exact rfl | exact ResV_ag rfl rfl TI.h rfl rfl | exact ResV_one rfl rfl TI.h rfl | constructor)), by decide⟩

set_option maxHeartbeats 4000000 in
theorem toOBinding_step {f0 : List UInt8} {f1 : U} (h0 : f0.length ≤ big) (g1 : wt (.st 1) f1) (h1 : PToO 9 [34] f1) : PToO 51 [34] (.st [.s f0, f1]) := by
  intro hw
  have hW : W (.st [.s f0, f1]) = f0.length + (W f1 + 0) := rfl
  have c1 := h1 (by omega)
  clear h1
  clear hW hw
  obtain ⟨f1_0, f1_1, f1_2, rfl, g1_0, g1_1, g1_2⟩ := inv_Type g1
  refine SpecO_intro Try.func51 rfl (by kernel_rfl) rfl (by simp) fun A _ => ?_
  repeat (first | refine VO_d ?_ | refine VQ_d ?_  | (first | refine VO_nil ?_ | refine VQ_nil ?_) | (first | refine V_seq_region ?_ | refine V_seq (V_seq_region ?_) | refine V_seq_draw tmix (by kernel_rfl) ?_ | refine V_seq (V_seq_draw tmix (by kernel_rfl) ?_) | refine V_region ?_ | refine V_draw tmix (by kernel_rfl) ?_))
  refine VO_callO rfl c1 (by (repeat (first | exact trivial | exact rfl | exact ⟨_, rfl⟩ | refine And.intro ?_ ?_)); first | done | fail) (by repeat constructor) (by repeat (first | exact rfl | constructor)) (by repeat constructor) rfl ?_
  repeat (first | refine VO_d ?_ | refine VQ_d ?_  | (first | refine VO_nil ?_ | refine VQ_nil ?_) | (first | refine V_seq_region ?_ | refine V_seq (V_seq_region ?_) | refine V_seq_draw tmix (by kernel_rfl) ?_ | refine V_seq (V_seq_draw tmix (by kernel_rfl) ?_) | refine V_region ?_ | refine V_draw tmix (by kernel_rfl) ?_))
  refine V_ret ?_
  exact ⟨trivial, _, (by repeat (first | exact rfl | exact ResV_ag rfl rfl TI.h rfl rfl | exact ResV_one rfl rfl TI.h rfl | constructor)), by decide⟩

theorem toOBinding_grp (u : U) : (wt (.st 2) u → PToO 51 [34] u) := by
  refine U.ind (M := fun u => (wt (.st 2) u → PToO 51 [34] u)) (fun u ih => ?_) u
  refine ?_
  · intro h
    obtain ⟨f0, f1, rfl, p0, p1⟩ := inv_Binding h
    exact toOBinding_step p0 p1 (toOType_all p1)
theorem toOBinding_all {u : U} (h : wt (.st 2) u) : PToO 51 [34] u := (toOBinding_grp u) h
theorem toOBindingS_all {us : List U} (h : us.length ≤ big ∧ ∀ x ∈ us, wt (.st 2) x) : PToO 19 [96] (.sl 4 us) := toOBindingS_step h.2 (fun a ha => toOBinding_all (h.2 a ha))
set_option maxHeartbeats 4000000 in
theorem toOBound_step {f0 : List UInt8} {f1 : U} (h0 : f0.length ≤ big) (g1 : wt (.st 1) f1) (h1 : PToO 9 [34] f1) : PToO 101 [34] (.st [.s f0, f1]) := by
  intro hw
  have hW : W (.st [.s f0, f1]) = f0.length + (W f1 + 0) := rfl
  have c1 := h1 (by omega)
  clear h1
  clear hW hw
  obtain ⟨f1_0, f1_1, f1_2, rfl, g1_0, g1_1, g1_2⟩ := inv_Type g1
  refine SpecO_intro Try.func101 rfl (by kernel_rfl) rfl (by simp) fun A _ => ?_
  repeat (first | refine VO_d ?_ | refine VQ_d ?_  | (first | refine VO_nil ?_ | refine VQ_nil ?_) | (first | refine V_seq_region ?_ | refine V_seq (V_seq_region ?_) | refine V_seq_draw tmix (by kernel_rfl) ?_ | refine V_seq (V_seq_draw tmix (by kernel_rfl) ?_) | refine V_region ?_ | refine V_draw tmix (by kernel_rfl) ?_))
  refine VO_callO rfl c1 (by (repeat (first | exact trivial | exact rfl | exact ⟨_, rfl⟩ | refine And.intro ?_ ?_)); first | done | fail) (by repeat constructor) (by repeat (first | exact rfl | constructor)) (by repeat constructor) rfl ?_
  repeat (first | refine VO_d ?_ | refine VQ_d ?_  | (first | refine VO_nil ?_ | refine VQ_nil ?_) | (first | refine V_seq_region ?_ | refine V_seq (V_seq_region ?_) | refine V_seq_draw tmix (by kernel_rfl) ?_ | refine V_seq (V_seq_draw tmix (by kernel_rfl) ?_) | refine V_region ?_ | refine V_draw tmix (by kernel_rfl) ?_))
  refine V_ret ?_
  exact ⟨trivial, _, (by repeat (first | exact rfl | exact ResV_ag rfl rfl TI.h rfl rfl | exact ResV_one rfl rfl TI.h rfl | constructor)), by decide⟩

theorem toOBound_grp (u : U) : (wt (.st 9) u → PToO 101 [34] u) := by
  refine U.ind (M := fun u => (wt (.st 9) u → PToO 101 [34] u)) (fun u ih => ?_) u
  refine ?_
  · intro h
    obtain ⟨f0, f1, rfl, p0, p1⟩ := inv_Bound h
    exact toOBound_step p0 p1 (toOType_all p1)
theorem toOBound_all {u : U} (h : wt (.st 9) u) : PToO 101 [34] u := (toOBound_grp u) h
theorem zt_Equation : ZeroT (.st [.st [.i .i64 0, .s [], .sl 3 []], .st [.i .i64 0, .s [], .sl 3 []], .i .i64 0]) [.int .i64 0, .string ⟨#[]⟩, .slice none 0 0, .int .i64 0, .string ⟨#[]⟩, .slice none 0 0, .int .i64 0] := zeroT (by repeat constructor) (by repeat constructor)
set_option maxHeartbeats 4000000 in
theorem toOEquationS_step {us : List U} (hz : ∀ a ∈ us, wt (.st 22) a) (ih : ∀ a ∈ us, PToO 75 [34, 34] a) : PToO 34 [124] (.sl 7 us) := by
  intro hw
  have hW : W (.sl 7 us) = us.length + Ws us := rfl
  refine SpecO_intro Try.func34 rfl (by kernel_rfl) rfl (by simp) fun A _ => ?_
  repeat (first | refine VO_d ?_ | refine VQ_d ?_  | (first | refine VO_nil ?_ | refine VQ_nil ?_) | (first | refine V_seq_region ?_ | refine V_seq (V_seq_region ?_) | refine V_seq_draw tmix (by kernel_rfl) ?_ | refine V_seq (V_seq_draw tmix (by kernel_rfl) ?_) | refine V_region ?_ | refine V_draw tmix (by kernel_rfl) ?_))
  refine VR_make rfl rfl TE.h TI.h TZ.h rfl zt_Equation (by omega) (by omega) (by rw [big_eq]; omega) (by omega) rfl (by repeat constructor) ?_
  rw [Int.toNat_natCast, fillU_zero]
  repeat (first | refine VO_d ?_ | refine VQ_d ?_  | (first | refine VO_nil ?_ | refine VQ_nil ?_) | (first | refine V_seq_region ?_ | refine V_seq (V_seq_region ?_) | refine V_seq_draw tmix (by kernel_rfl) ?_ | refine V_seq (V_seq_draw tmix (by kernel_rfl) ?_) | refine V_region ?_ | refine V_draw tmix (by kernel_rfl) ?_))
  refine V_block ?_
  refine V_loop (α := Nat)
    (fun k => ⟨[(0, .d (.sl 7 us)), (3, .sl 0 0), (4, .d (.i .i64 k))], [.own 124 7 0 (fillU us (.st [.st [.i .i64 0, .s [], .sl 3 []], .st [.i .i64 0, .s [], .sl 3 []], .i .i64 0]) k)], Try.f34.ntmps⟩)
    (fun k => k ≤ us.length)
    (fun k => us.length - k) 0 ⟨rfl, ⟨⟨rfl, rfl⟩, ⟨rfl, rfl⟩, ⟨rfl, rfl⟩, trivial⟩, ⟨[], rfl⟩, rfl⟩ (by simp) ?_
  intro k hk
  repeat (first | refine VO_d ?_ | refine VQ_d ?_  | (first | refine VO_nil ?_ | refine VQ_nil ?_) | (first | refine V_seq_region ?_ | refine V_seq (V_seq_region ?_) | refine V_seq_draw tmix (by kernel_rfl) ?_ | refine V_seq (V_seq_draw tmix (by kernel_rfl) ?_) | refine V_region ?_ | refine V_draw tmix (by kernel_rfl) ?_))
  (first | refine V_cond rfl (fun hc2 => ?_) (fun hc2 => ?_) | refine V_seq (V_cond rfl (fun hc2 => ?_) (fun hc2 => ?_)))
  · refine V_skip ?_
    simp only [decide_eq_true_eq] at hc2
    have hkl : k < us.length := by omega
    obtain ⟨a, hget⟩ : ∃ a, us[k]? = some a := ⟨_, List.getElem?_eq_getElem hkl⟩
    have hmem := List.mem_of_getElem? hget
    have hwk := W_le_of_mem hmem
    have hfl : (fillU us (.st [.st [.i .i64 0, .s [], .sl 3 []], .st [.i .i64 0, .s [], .sl 3 []], .i .i64 0]) k).length = us.length := fillU_length hk
    have hset := fillU_set (zu := .st [.st [.i .i64 0, .s [], .sl 3 []], .st [.i .i64 0, .s [], .sl 3 []], .i .i64 0]) hget
    have hcall := ih a hmem (by omega)
    have hwa := hz a hmem
    obtain ⟨a_0, a_1, a_2, rfl, hwa_0, hwa_1, hwa_2⟩ := inv_Equation hwa
    obtain ⟨a_0_0, a_0_1, a_0_2, rfl, hwa_0_0, hwa_0_1, hwa_0_2⟩ := inv_Type hwa_0
    obtain ⟨a_1_0, a_1_1, a_1_2, rfl, hwa_1_0, hwa_1_1, hwa_1_2⟩ := inv_Type hwa_1
    refine V_seq (V_block ?_)
    repeat (first | refine VO_d ?_ | refine VQ_d ?_ | (first | refine VO_q (Q_index rfl rfl TE.h TI.h (by omega) hget) rfl ?_ | refine VQ_q (Q_index rfl rfl TE.h TI.h (by omega) hget) rfl ?_ | (refine VO_bare rfl rfl rfl rfl ?_; refine VO_q (Q_index rfl rfl TE.h TI.h (by omega) hget) rfl ?_) | refine VQ_run rfl rfl rfl rfl (Q_index rfl rfl TE.h TI.h (by omega) hget) rfl ?_) | (first | refine VO_q (Q_index_own rfl rfl .own rfl TE.h TI.h (by omega) (by omega)) rfl ?_ | refine VQ_q (Q_index_own rfl rfl .own rfl TE.h TI.h (by omega) (by omega)) rfl ?_ | (refine VO_bare rfl rfl rfl rfl ?_; refine VO_q (Q_index_own rfl rfl .own rfl TE.h TI.h (by omega) (by omega)) rfl ?_) | refine VQ_run rfl rfl rfl rfl (Q_index_own rfl rfl .own rfl TE.h TI.h (by omega) (by omega)) rfl ?_) | (first | refine VO_nil ?_ | refine VQ_nil ?_) | (first | refine V_seq_region ?_ | refine V_seq (V_seq_region ?_) | refine V_seq_draw tmix (by kernel_rfl) ?_ | refine V_seq (V_seq_draw tmix (by kernel_rfl) ?_) | refine V_region ?_ | refine V_draw tmix (by kernel_rfl) ?_))
    refine VO_callO rfl hcall (by (repeat (first | exact trivial | exact rfl | exact ⟨_, rfl⟩ | refine And.intro ?_ ?_)); first | done | fail) (by repeat constructor) (by repeat (first | exact rfl | constructor)) (by repeat constructor) rfl ?_
    repeat (first | refine VO_d ?_ | refine VQ_d ?_ | (first | refine VO_q (Q_index rfl rfl TE.h TI.h (by omega) hget) rfl ?_ | refine VQ_q (Q_index rfl rfl TE.h TI.h (by omega) hget) rfl ?_ | (refine VO_bare rfl rfl rfl rfl ?_; refine VO_q (Q_index rfl rfl TE.h TI.h (by omega) hget) rfl ?_) | refine VQ_run rfl rfl rfl rfl (Q_index rfl rfl TE.h TI.h (by omega) hget) rfl ?_) | (first | refine VO_q (Q_index_own rfl rfl .own rfl TE.h TI.h (by omega) (by omega)) rfl ?_ | refine VQ_q (Q_index_own rfl rfl .own rfl TE.h TI.h (by omega) (by omega)) rfl ?_ | (refine VO_bare rfl rfl rfl rfl ?_; refine VO_q (Q_index_own rfl rfl .own rfl TE.h TI.h (by omega) (by omega)) rfl ?_) | refine VQ_run rfl rfl rfl rfl (Q_index_own rfl rfl .own rfl TE.h TI.h (by omega) (by omega)) rfl ?_) | (first | refine VO_nil ?_ | refine VQ_nil ?_) | (first | refine V_seq_region ?_ | refine V_seq (V_seq_region ?_) | refine V_seq_draw tmix (by kernel_rfl) ?_ | refine V_seq (V_seq_draw tmix (by kernel_rfl) ?_) | refine V_region ?_ | refine V_draw tmix (by kernel_rfl) ?_))
    refine VR_store (u := .st [.st [.i .i64 a_0_0, .s a_0_1, .sl 3 a_0_2], .st [.i .i64 a_1_0, .s a_1_1, .sl 3 a_1_2], .i .i64 a_2]) rfl rfl (by repeat (first | exact rfl | constructor)) (by decide) TI.h rfl (by omega) (by repeat constructor) (by repeat constructor) ?_
    rw [Int.toNat_natCast, hset]
    repeat (first | refine VO_d ?_ | refine VQ_d ?_  | (first | refine VO_nil ?_ | refine VQ_nil ?_) | (first | refine V_seq_region ?_ | refine V_seq (V_seq_region ?_) | refine V_seq_draw tmix (by kernel_rfl) ?_ | refine V_seq (V_seq_draw tmix (by kernel_rfl) ?_) | refine V_region ?_ | refine V_draw tmix (by kernel_rfl) ?_))
    refine ⟨k + 1, by omega, by omega, ⟨rfl, ⟨⟨rfl, rfl⟩, ⟨rfl, rfl⟩, ⟨rfl, rfl⟩, trivial⟩, ⟨_, rfl⟩, rfl⟩⟩
  · refine V_exit ?_
    simp only [decide_eq_false_iff_not] at hc2
    have hkl : k = us.length := by omega
    subst hkl
    show V _ _ _ _ _
    repeat (first | refine VO_d ?_ | refine VQ_d ?_  | (first | refine VO_nil ?_ | refine VQ_nil ?_) | (first | refine V_seq_region ?_ | refine V_seq (V_seq_region ?_) | refine V_seq_draw tmix (by kernel_rfl) ?_ | refine V_seq (V_seq_draw tmix (by kernel_rfl) ?_) | refine V_region ?_ | refine V_draw tmix (by kernel_rfl) ?_))
    refine V_cast [.own 124 7 0 us] (by rw [fillU_all]) ?_
    refine V_ret ?_
    exact ⟨trivial, _, (by repeat (first | exact rfl | exact ResV_ag rfl rfl TI.h rfl rfl | exact ResV_one rfl rfl TI.h rfl | constructor)), by decide⟩

set_option maxHeartbeats 4000000 in
theorem toOEquation_step {f0 : U} {f1 : U} {f2 : Int} (g0 : wt (.st 1) f0) (h0 : PToO 9 [34] f0) (g1 : wt (.st 1) f1) (h1 : PToO 9 [34] f1) : PToO 75 [34, 34] (.st [f0, f1, .i .i64 f2]) := by
  intro hw
  have hW : W (.st [f0, f1, .i .i64 f2]) = W f0 + (W f1 + (0 + 0)) := rfl
  have c0 := h0 (by omega)
  clear h0
  have c1 := h1 (by omega)
  clear h1
  clear hW hw
  obtain ⟨f0_0, f0_1, f0_2, rfl, g0_0, g0_1, g0_2⟩ := inv_Type g0
  obtain ⟨f1_0, f1_1, f1_2, rfl, g1_0, g1_1, g1_2⟩ := inv_Type g1
  refine SpecO_intro Try.func75 rfl (by kernel_rfl) rfl (by simp) fun A _ => ?_
  repeat (first | refine VO_d ?_ | refine VQ_d ?_  | (first | refine VO_nil ?_ | refine VQ_nil ?_) | (first | refine V_seq_region ?_ | refine V_seq (V_seq_region ?_) | refine V_seq_draw tmix (by kernel_rfl) ?_ | refine V_seq (V_seq_draw tmix (by kernel_rfl) ?_) | refine V_region ?_ | refine V_draw tmix (by kernel_rfl) ?_))
  refine VO_callO rfl c0 (by (repeat (first | exact trivial | exact rfl | exact ⟨_, rfl⟩ | refine And.intro ?_ ?_)); first | done | fail) (by repeat constructor) (by repeat (first | exact rfl | constructor)) (by repeat constructor) rfl ?_
  repeat (first | refine VO_d ?_ | refine VQ_d ?_  | (first | refine VO_nil ?_ | refine VQ_nil ?_) | (first | refine V_seq_region ?_ | refine V_seq (V_seq_region ?_) | refine V_seq_draw tmix (by kernel_rfl) ?_ | refine V_seq (V_seq_draw tmix (by kernel_rfl) ?_) | refine V_region ?_ | refine V_draw tmix (by kernel_rfl) ?_))
  refine VO_callO rfl c1 (by (repeat (first | exact trivial | exact rfl | exact ⟨_, rfl⟩ | refine And.intro ?_ ?_)); first | done | fail) (by repeat constructor) (by repeat (first | exact rfl | constructor)) (by repeat constructor) rfl ?_
  repeat (first | refine VO_d ?_ | refine VQ_d ?_  | (first | refine VO_nil ?_ | refine VQ_nil ?_) | (first | refine V_seq_region ?_ | refine V_seq (V_seq_region ?_) | refine V_seq_draw tmix (by kernel_rfl) ?_ | refine V_seq (V_seq_draw tmix (by kernel_rfl) ?_) | refine V_region ?_ | refine V_draw tmix (by kernel_rfl) ?_))
  refine V_ret ?_
  exact ⟨trivial, _, (by repeat (first | exact rfl | exact ResV_ag rfl rfl TI.h rfl rfl | exact ResV_one rfl rfl TI.h rfl | constructor)), by decide⟩

theorem toOEquation_grp (u : U) : (wt (.st 22) u → PToO 75 [34, 34] u) := by
  refine U.ind (M := fun u => (wt (.st 22) u → PToO 75 [34, 34] u)) (fun u ih => ?_) u
  refine ?_
  · intro h
    obtain ⟨f0, f1, f2, rfl, p0, p1, p2⟩ := inv_Equation h
    exact toOEquation_step p0 (toOType_all p0) p1 (toOType_all p1)
theorem toOEquation_all {u : U} (h : wt (.st 22) u) : PToO 75 [34, 34] u := (toOEquation_grp u) h
theorem toOEquationS_all {us : List U} (h : us.length ≤ big ∧ ∀ x ∈ us, wt (.st 22) x) : PToO 34 [124] (.sl 7 us) := toOEquationS_step h.2 (fun a ha => toOEquation_all (h.2 a ha))
theorem zt_Obligation : ZeroT (.st [.st [.s [], .st [.i .i64 0, .s [], .sl 3 []]], .i .i64 0]) [.string ⟨#[]⟩, .int .i64 0, .string ⟨#[]⟩, .slice none 0 0, .int .i64 0] := zeroT (by repeat constructor) (by repeat constructor)
set_option maxHeartbeats 4000000 in
theorem toOObligationS_step {us : List U} (hz : ∀ a ∈ us, wt (.st 23) a) (ih : ∀ a ∈ us, PToO 76 [34] a) : PToO 35 [129] (.sl 5 us) := by
  intro hw
  have hW : W (.sl 5 us) = us.length + Ws us := rfl
  refine SpecO_intro Try.func35 rfl (by kernel_rfl) rfl (by simp) fun A _ => ?_
  repeat (first | refine VO_d ?_ | refine VQ_d ?_  | (first | refine VO_nil ?_ | refine VQ_nil ?_) | (first | refine V_seq_region ?_ | refine V_seq (V_seq_region ?_) | refine V_seq_draw tmix (by kernel_rfl) ?_ | refine V_seq (V_seq_draw tmix (by kernel_rfl) ?_) | refine V_region ?_ | refine V_draw tmix (by kernel_rfl) ?_))
  refine VR_make rfl rfl TE.h TI.h TZ.h rfl zt_Obligation (by omega) (by omega) (by rw [big_eq]; omega) (by omega) rfl (by repeat constructor) ?_
  rw [Int.toNat_natCast, fillU_zero]
  repeat (first | refine VO_d ?_ | refine VQ_d ?_  | (first | refine VO_nil ?_ | refine VQ_nil ?_) | (first | refine V_seq_region ?_ | refine V_seq (V_seq_region ?_) | refine V_seq_draw tmix (by kernel_rfl) ?_ | refine V_seq (V_seq_draw tmix (by kernel_rfl) ?_) | refine V_region ?_ | refine V_draw tmix (by kernel_rfl) ?_))
  refine V_block ?_
  refine V_loop (α := Nat)
    (fun k => ⟨[(0, .d (.sl 5 us)), (3, .sl 0 0), (4, .d (.i .i64 k))], [.own 129 5 0 (fillU us (.st [.st [.s [], .st [.i .i64 0, .s [], .sl 3 []]], .i .i64 0]) k)], Try.f35.ntmps⟩)
    (fun k => k ≤ us.length)
    (fun k => us.length - k) 0 ⟨rfl, ⟨⟨rfl, rfl⟩, ⟨rfl, rfl⟩, ⟨rfl, rfl⟩, trivial⟩, ⟨[], rfl⟩, rfl⟩ (by simp) ?_
  intro k hk
  repeat (first | refine VO_d ?_ | refine VQ_d ?_  | (first | refine VO_nil ?_ | refine VQ_nil ?_) | (first | refine V_seq_region ?_ | refine V_seq (V_seq_region ?_) | refine V_seq_draw tmix (by kernel_rfl) ?_ | refine V_seq (V_seq_draw tmix (by kernel_rfl) ?_) | refine V_region ?_ | refine V_draw tmix (by kernel_rfl) ?_))
  (first | refine V_cond rfl (fun hc2 => ?_) (fun hc2 => ?_) | refine V_seq (V_cond rfl (fun hc2 => ?_) (fun hc2 => ?_)))
  · refine V_skip ?_
    simp only [decide_eq_true_eq] at hc2
    have hkl : k < us.length := by omega
    obtain ⟨a, hget⟩ : ∃ a, us[k]? = some a := ⟨_, List.getElem?_eq_getElem hkl⟩
    have hmem := List.mem_of_getElem? hget
    have hwk := W_le_of_mem hmem
    have hfl : (fillU us (.st [.st [.s [], .st [.i .i64 0, .s [], .sl 3 []]], .i .i64 0]) k).length = us.length := fillU_length hk
    have hset := fillU_set (zu := .st [.st [.s [], .st [.i .i64 0, .s [], .sl 3 []]], .i .i64 0]) hget
    have hcall := ih a hmem (by omega)
    have hwa := hz a hmem
    obtain ⟨a_0, a_1, rfl, hwa_0, hwa_1⟩ := inv_Obligation hwa
    obtain ⟨a_0_0, a_0_1, rfl, hwa_0_0, hwa_0_1⟩ := inv_Bound hwa_0
    obtain ⟨a_0_1_0, a_0_1_1, a_0_1_2, rfl, hwa_0_1_0, hwa_0_1_1, hwa_0_1_2⟩ := inv_Type hwa_0_1
    refine V_seq (V_block ?_)
    repeat (first | refine VO_d ?_ | refine VQ_d ?_ | (first | refine VO_q (Q_index rfl rfl TE.h TI.h (by omega) hget) rfl ?_ | refine VQ_q (Q_index rfl rfl TE.h TI.h (by omega) hget) rfl ?_ | (refine VO_bare rfl rfl rfl rfl ?_; refine VO_q (Q_index rfl rfl TE.h TI.h (by omega) hget) rfl ?_) | refine VQ_run rfl rfl rfl rfl (Q_index rfl rfl TE.h TI.h (by omega) hget) rfl ?_) | (first | refine VO_q (Q_index_own rfl rfl .own rfl TE.h TI.h (by omega) (by omega)) rfl ?_ | refine VQ_q (Q_index_own rfl rfl .own rfl TE.h TI.h (by omega) (by omega)) rfl ?_ | (refine VO_bare rfl rfl rfl rfl ?_; refine VO_q (Q_index_own rfl rfl .own rfl TE.h TI.h (by omega) (by omega)) rfl ?_) | refine VQ_run rfl rfl rfl rfl (Q_index_own rfl rfl .own rfl TE.h TI.h (by omega) (by omega)) rfl ?_) | (first | refine VO_nil ?_ | refine VQ_nil ?_) | (first | refine V_seq_region ?_ | refine V_seq (V_seq_region ?_) | refine V_seq_draw tmix (by kernel_rfl) ?_ | refine V_seq (V_seq_draw tmix (by kernel_rfl) ?_) | refine V_region ?_ | refine V_draw tmix (by kernel_rfl) ?_))
    refine VO_callO rfl hcall (by (repeat (first | exact trivial | exact rfl | exact ⟨_, rfl⟩ | refine And.intro ?_ ?_)); first | done | fail) (by repeat constructor) (by repeat (first | exact rfl | constructor)) (by repeat constructor) rfl ?_
    repeat (first | refine VO_d ?_ | refine VQ_d ?_ | (first | refine VO_q (Q_index rfl rfl TE.h TI.h (by omega) hget) rfl ?_ | refine VQ_q (Q_index rfl rfl TE.h TI.h (by omega) hget) rfl ?_ | (refine VO_bare rfl rfl rfl rfl ?_; refine VO_q (Q_index rfl rfl TE.h TI.h (by omega) hget) rfl ?_) | refine VQ_run rfl rfl rfl rfl (Q_index rfl rfl TE.h TI.h (by omega) hget) rfl ?_) | (first | refine VO_q (Q_index_own rfl rfl .own rfl TE.h TI.h (by omega) (by omega)) rfl ?_ | refine VQ_q (Q_index_own rfl rfl .own rfl TE.h TI.h (by omega) (by omega)) rfl ?_ | (refine VO_bare rfl rfl rfl rfl ?_; refine VO_q (Q_index_own rfl rfl .own rfl TE.h TI.h (by omega) (by omega)) rfl ?_) | refine VQ_run rfl rfl rfl rfl (Q_index_own rfl rfl .own rfl TE.h TI.h (by omega) (by omega)) rfl ?_) | (first | refine VO_nil ?_ | refine VQ_nil ?_) | (first | refine V_seq_region ?_ | refine V_seq (V_seq_region ?_) | refine V_seq_draw tmix (by kernel_rfl) ?_ | refine V_seq (V_seq_draw tmix (by kernel_rfl) ?_) | refine V_region ?_ | refine V_draw tmix (by kernel_rfl) ?_))
    refine VR_store (u := .st [.st [.s a_0_0, .st [.i .i64 a_0_1_0, .s a_0_1_1, .sl 3 a_0_1_2]], .i .i64 a_1]) rfl rfl (by repeat (first | exact rfl | constructor)) (by decide) TI.h rfl (by omega) (by repeat constructor) (by repeat constructor) ?_
    rw [Int.toNat_natCast, hset]
    repeat (first | refine VO_d ?_ | refine VQ_d ?_  | (first | refine VO_nil ?_ | refine VQ_nil ?_) | (first | refine V_seq_region ?_ | refine V_seq (V_seq_region ?_) | refine V_seq_draw tmix (by kernel_rfl) ?_ | refine V_seq (V_seq_draw tmix (by kernel_rfl) ?_) | refine V_region ?_ | refine V_draw tmix (by kernel_rfl) ?_))
    refine ⟨k + 1, by omega, by omega, ⟨rfl, ⟨⟨rfl, rfl⟩, ⟨rfl, rfl⟩, ⟨rfl, rfl⟩, trivial⟩, ⟨_, rfl⟩, rfl⟩⟩
  · refine V_exit ?_
    simp only [decide_eq_false_iff_not] at hc2
    have hkl : k = us.length := by omega
    subst hkl
    show V _ _ _ _ _
    repeat (first | refine VO_d ?_ | refine VQ_d ?_  | (first | refine VO_nil ?_ | refine VQ_nil ?_) | (first | refine V_seq_region ?_ | refine V_seq (V_seq_region ?_) | refine V_seq_draw tmix (by kernel_rfl) ?_ | refine V_seq (V_seq_draw tmix (by kernel_rfl) ?_) | refine V_region ?_ | refine V_draw tmix (by kernel_rfl) ?_))
    refine V_cast [.own 129 5 0 us] (by rw [fillU_all]) ?_
    refine V_ret ?_
    exact ⟨trivial, _, (by repeat (first | exact rfl | exact ResV_ag rfl rfl TI.h rfl rfl | exact ResV_one rfl rfl TI.h rfl | constructor)), by decide⟩

set_option maxHeartbeats 4000000 in
theorem toOObligation_step {f0 : U} {f1 : Int} (g0 : wt (.st 9) f0) (h0 : PToO 101 [34] f0) : PToO 76 [34] (.st [f0, .i .i64 f1]) := by
  intro hw
  have hW : W (.st [f0, .i .i64 f1]) = W f0 + (0 + 0) := rfl
  have c0 := h0 (by omega)
  clear h0
  clear hW hw
  obtain ⟨f0_0, f0_1, rfl, g0_0, g0_1⟩ := inv_Bound g0
  obtain ⟨f0_1_0, f0_1_1, f0_1_2, rfl, g0_1_0, g0_1_1, g0_1_2⟩ := inv_Type g0_1
  refine SpecO_intro Try.func76 rfl (by kernel_rfl) rfl (by simp) fun A _ => ?_
  repeat (first | refine VO_d ?_ | refine VQ_d ?_  | (first | refine VO_nil ?_ | refine VQ_nil ?_) | (first | refine V_seq_region ?_ | refine V_seq (V_seq_region ?_) | refine V_seq_draw tmix (by kernel_rfl) ?_ | refine V_seq (V_seq_draw tmix (by kernel_rfl) ?_) | refine V_region ?_ | refine V_draw tmix (by kernel_rfl) ?_))
  refine VO_callO rfl c0 (by (repeat (first | exact trivial | exact rfl | exact ⟨_, rfl⟩ | refine And.intro ?_ ?_)); first | done | fail) (by repeat constructor) (by repeat (first | exact rfl | constructor)) (by repeat constructor) rfl ?_
  repeat (first | refine VO_d ?_ | refine VQ_d ?_  | (first | refine VO_nil ?_ | refine VQ_nil ?_) | (first | refine V_seq_region ?_ | refine V_seq (V_seq_region ?_) | refine V_seq_draw tmix (by kernel_rfl) ?_ | refine V_seq (V_seq_draw tmix (by kernel_rfl) ?_) | refine V_region ?_ | refine V_draw tmix (by kernel_rfl) ?_))
  refine V_ret ?_
  exact ⟨trivial, _, (by repeat (first | exact rfl | exact ResV_ag rfl rfl TI.h rfl rfl | exact ResV_one rfl rfl TI.h rfl | constructor)), by decide⟩

theorem toOObligation_grp (u : U) : (wt (.st 23) u → PToO 76 [34] u) := by
  refine U.ind (M := fun u => (wt (.st 23) u → PToO 76 [34] u)) (fun u ih => ?_) u
  refine ?_
  · intro h
    obtain ⟨f0, f1, rfl, p0, p1⟩ := inv_Obligation h
    exact toOObligation_step p0 (toOBound_all p0)
theorem toOObligation_all {u : U} (h : wt (.st 23) u) : PToO 76 [34] u := (toOObligation_grp u) h
theorem toOObligationS_all {us : List U} (h : us.length ≤ big ∧ ∀ x ∈ us, wt (.st 23) x) : PToO 35 [129] (.sl 5 us) := toOObligationS_step h.2 (fun a ha => toOObligation_all (h.2 a ha))
set_option maxHeartbeats 4000000 in
theorem toOInferState_step {f0 : Int} {f1 : Int} {f2 : Int} {f3 : List U} {f4 : List U} {f5 : List U} {f6 : Int} {f7 : Int} (h3 : PToO 19 [96] (.sl 4 f3)) (h4 : PToO 34 [124] (.sl 7 f4)) (h5 : PToO 35 [129] (.sl 5 f5)) : PToO 8 [96, 124, 129] (.st [.i .i64 f0, .i .i64 f1, .i .i64 f2, .sl 4 f3, .sl 7 f4, .sl 5 f5, .i .i64 f6, .i .i64 f7]) := by
  intro hw
  have hW : W (.st [.i .i64 f0, .i .i64 f1, .i .i64 f2, .sl 4 f3, .sl 7 f4, .sl 5 f5, .i .i64 f6, .i .i64 f7]) = 0 + (0 + (0 + (W (U.sl 4 f3) + (W (U.sl 7 f4) + (W (U.sl 5 f5) + (0 + (0 + 0))))))) := rfl
  have c3 := h3 (by omega)
  clear h3
  have c4 := h4 (by omega)
  clear h4
  have c5 := h5 (by omega)
  clear h5
  clear hW hw
  refine SpecO_intro Try.func8 rfl (by kernel_rfl) rfl (by simp) fun A _ => ?_
  repeat (first | refine VO_d ?_ | refine VQ_d ?_  | (first | refine VO_nil ?_ | refine VQ_nil ?_) | (first | refine V_seq_region ?_ | refine V_seq (V_seq_region ?_) | refine V_seq_draw tmix (by kernel_rfl) ?_ | refine V_seq (V_seq_draw tmix (by kernel_rfl) ?_) | refine V_region ?_ | refine V_draw tmix (by kernel_rfl) ?_))
  refine VO_callO rfl c3 (by (repeat (first | exact trivial | exact rfl | exact ⟨_, rfl⟩ | refine And.intro ?_ ?_)); first | done | fail) (by repeat constructor) (by repeat (first | exact rfl | constructor)) (by repeat constructor) rfl ?_
  repeat (first | refine VO_d ?_ | refine VQ_d ?_  | (first | refine VO_nil ?_ | refine VQ_nil ?_) | (first | refine V_seq_region ?_ | refine V_seq (V_seq_region ?_) | refine V_seq_draw tmix (by kernel_rfl) ?_ | refine V_seq (V_seq_draw tmix (by kernel_rfl) ?_) | refine V_region ?_ | refine V_draw tmix (by kernel_rfl) ?_))
  refine VO_callO rfl c4 (by (repeat (first | exact trivial | exact rfl | exact ⟨_, rfl⟩ | refine And.intro ?_ ?_)); first | done | fail) (by repeat constructor) (by repeat (first | exact rfl | constructor)) (by repeat constructor) rfl ?_
  repeat (first | refine VO_d ?_ | refine VQ_d ?_  | (first | refine VO_nil ?_ | refine VQ_nil ?_) | (first | refine V_seq_region ?_ | refine V_seq (V_seq_region ?_) | refine V_seq_draw tmix (by kernel_rfl) ?_ | refine V_seq (V_seq_draw tmix (by kernel_rfl) ?_) | refine V_region ?_ | refine V_draw tmix (by kernel_rfl) ?_))
  refine VO_callO rfl c5 (by (repeat (first | exact trivial | exact rfl | exact ⟨_, rfl⟩ | refine And.intro ?_ ?_)); first | done | fail) (by repeat constructor) (by repeat (first | exact rfl | constructor)) (by repeat constructor) rfl ?_
  repeat (first | refine VO_d ?_ | refine VQ_d ?_  | (first | refine VO_nil ?_ | refine VQ_nil ?_) | (first | refine V_seq_region ?_ | refine V_seq (V_seq_region ?_) | refine V_seq_draw tmix (by kernel_rfl) ?_ | refine V_seq (V_seq_draw tmix (by kernel_rfl) ?_) | refine V_region ?_ | refine V_draw tmix (by kernel_rfl) ?_))
  refine V_ret ?_
  exact ⟨trivial, _, (by repeat (first | exact rfl | exact ResV_ag rfl rfl TI.h rfl rfl | exact ResV_one rfl rfl TI.h rfl | constructor)), by decide⟩

theorem toOInferState_grp (u : U) : (wt (.st 24) u → PToO 8 [96, 124, 129] u) := by
  refine U.ind (M := fun u => (wt (.st 24) u → PToO 8 [96, 124, 129] u)) (fun u ih => ?_) u
  refine ?_
  · intro h
    obtain ⟨f0, f1, f2, f3, f4, f5, f6, f7, rfl, p0, p1, p2, p3, p4, p5, p6, p7⟩ := inv_InferState h
    exact toOInferState_step (toOBindingS_all p3) (toOEquationS_all p4) (toOObligationS_all p5)
theorem toOInferState_all {u : U} (h : wt (.st 24) u) : PToO 8 [96, 124, 129] u := (toOInferState_grp u) h
end Go.Proofs.Ythojhakapbfbiaa
