/- The contracts of the laws' own helpers that own or turn memory. Written by a program of mine (famO.py). -/
import Derived.Test.YtjckkahiapjkfaaFamL
import Derived.Test.YtjckkahiapjkfaaEng28
set_option linter.unusedVariables false
set_option linter.unusedSimpArgs false
namespace Go.Proofs.Ytjckkahiapjkfaa
open Go Go.Eng
attribute [local irreducible] V VO VQ VY Quiet SpecP SpecO MSpec
abbrev PToO (f : Nat) (es : List TypeId) (u : U) : Prop := W u ≤ 1048576 → SpecO Try.prog f [.d u] es [u]
abbrev PMk (f : Nat) (u : U) : Prop := ∀ k : Int, 0 < k → k + u.lf ≤ 4611686018427387904 → MSpec Try.prog f u k (u.mkt k).1 (u.mkt k).2
abbrev PHe (f : Nat) (u : U) : Prop := ∀ k : Int, 0 < k → k + u.lf ≤ 4611686018427387904 → SpecP Try.prog f [.d (u.mkt k).1, .d (.i .i64 k)] [.i .i64 (u.mkt k).2]

theorem zt_Type : ZeroT (.st [.i .i64 0, .s [], .sl 3 []]) [.int .i64 0, .string ⟨#[]⟩, .slice none 0 0] := zeroT (by repeat constructor) (by repeat constructor)
set_option maxHeartbeats 4000000 in
theorem toOTypeS_step {us : List U} (hz : ∀ a ∈ us, wt (.st 1) a) (ih : ∀ a ∈ us, PToO 57 [26] a) : PToO 58 [26] (.sl 3 us) := by
  intro hw
  have hW : W (.sl 3 us) = us.length + Ws us := rfl
  refine SpecO_intro Try.func58 rfl (by kernel_rfl) rfl (by simp) fun A => ?_
  repeat (first | refine VO_d ?_ | refine VQ_d ?_  | (first | refine VO_nil ?_ | refine VQ_nil ?_) | (first | refine V_seq_region ?_ | refine V_seq (V_seq_region ?_) | refine V_seq_draw tmix (by kernel_rfl) ?_ | refine V_seq (V_seq_draw tmix (by kernel_rfl) ?_) | refine V_region ?_ | refine V_draw tmix (by kernel_rfl) ?_))
  refine VR_make rfl rfl TE.h TI.h TZ.h rfl zt_Type (by omega) (by omega) (by rw [big_eq]; omega) (by omega) rfl (by repeat constructor) ?_
  rw [Int.toNat_natCast, fillU_zero]
  repeat (first | refine VO_d ?_ | refine VQ_d ?_  | (first | refine VO_nil ?_ | refine VQ_nil ?_) | (first | refine V_seq_region ?_ | refine V_seq (V_seq_region ?_) | refine V_seq_draw tmix (by kernel_rfl) ?_ | refine V_seq (V_seq_draw tmix (by kernel_rfl) ?_) | refine V_region ?_ | refine V_draw tmix (by kernel_rfl) ?_))
  refine V_block ?_
  refine V_loop (α := Nat)
    (fun k => ⟨[(0, .d (.sl 3 us)), (3, .sl 0 0), (4, .d (.i .i64 k))], [.own 26 3 0 (fillU us (.st [.i .i64 0, .s [], .sl 3 []]) k)], Try.f58.ntmps⟩)
    (fun k => k ≤ us.length)
    (fun k => us.length - k) 0 ⟨rfl, ⟨⟨rfl, rfl⟩, ⟨rfl, rfl⟩, ⟨rfl, rfl⟩, trivial⟩, ⟨[], rfl⟩, rfl⟩ (by simp) ?_
  intro k hk
  repeat (first | refine VO_d ?_ | refine VQ_d ?_  | (first | refine VO_nil ?_ | refine VQ_nil ?_) | (first | refine V_seq_region ?_ | refine V_seq (V_seq_region ?_) | refine V_seq_draw tmix (by kernel_rfl) ?_ | refine V_seq (V_seq_draw tmix (by kernel_rfl) ?_) | refine V_region ?_ | refine V_draw tmix (by kernel_rfl) ?_))
  (first | refine V_cond rfl (fun hc2 => ?_) (fun hc2 => ?_) | refine V_seq (V_cond rfl (fun hc2 => ?_) (fun hc2 => ?_)))
  · refine V_skip ?_
    simp only [decide_eq_true_eq] at hc2
    have hkl : k < us.length := by omega
    obtain ⟨a, hget⟩ : ∃ a, us[k]? = some a := ⟨_, List.getElem?_eq_getElem hkl⟩
    have hmem := List.mem_of_getElem? hget
    have hwk := W_le_of_mem hmem
    have hfl : (fillU us (.st [.i .i64 0, .s [], .sl 3 []]) k).length = us.length := fillU_length hk
    have hset := fillU_set (zu := .st [.i .i64 0, .s [], .sl 3 []]) hget
    have hcall := ih a hmem (by omega)
    have hwa := hz a hmem
    obtain ⟨a_0, a_1, a_2, rfl, hwa_0, hwa_1, hwa_2⟩ := inv_Type hwa
    refine V_seq (V_block ?_)
    repeat (first | refine VO_d ?_ | refine VQ_d ?_ | (first | refine VO_q (Q_index rfl rfl TE.h TI.h (by omega) hget) rfl ?_ | refine VQ_q (Q_index rfl rfl TE.h TI.h (by omega) hget) rfl ?_ | (refine VO_bare rfl rfl rfl rfl ?_; refine VO_q (Q_index rfl rfl TE.h TI.h (by omega) hget) rfl ?_) | refine VQ_run rfl rfl rfl rfl (Q_index rfl rfl TE.h TI.h (by omega) hget) rfl ?_) | (first | refine VO_q (Q_index_own rfl rfl .own rfl TE.h TI.h (by omega) (by omega)) rfl ?_ | refine VQ_q (Q_index_own rfl rfl .own rfl TE.h TI.h (by omega) (by omega)) rfl ?_ | (refine VO_bare rfl rfl rfl rfl ?_; refine VO_q (Q_index_own rfl rfl .own rfl TE.h TI.h (by omega) (by omega)) rfl ?_) | refine VQ_run rfl rfl rfl rfl (Q_index_own rfl rfl .own rfl TE.h TI.h (by omega) (by omega)) rfl ?_) | (first | refine VO_nil ?_ | refine VQ_nil ?_) | (first | refine V_seq_region ?_ | refine V_seq (V_seq_region ?_) | refine V_seq_draw tmix (by kernel_rfl) ?_ | refine V_seq (V_seq_draw tmix (by kernel_rfl) ?_) | refine V_region ?_ | refine V_draw tmix (by kernel_rfl) ?_))
    refine VO_callO rfl hcall (by repeat (first | exact trivial | exact rfl | exact ⟨_, rfl⟩ | refine And.intro ?_ ?_)) (by repeat constructor) (by repeat (first | exact rfl | constructor)) (by repeat constructor) rfl ?_
    repeat (first | refine VO_d ?_ | refine VQ_d ?_ | (first | refine VO_q (Q_index rfl rfl TE.h TI.h (by omega) hget) rfl ?_ | refine VQ_q (Q_index rfl rfl TE.h TI.h (by omega) hget) rfl ?_ | (refine VO_bare rfl rfl rfl rfl ?_; refine VO_q (Q_index rfl rfl TE.h TI.h (by omega) hget) rfl ?_) | refine VQ_run rfl rfl rfl rfl (Q_index rfl rfl TE.h TI.h (by omega) hget) rfl ?_) | (first | refine VO_q (Q_index_own rfl rfl .own rfl TE.h TI.h (by omega) (by omega)) rfl ?_ | refine VQ_q (Q_index_own rfl rfl .own rfl TE.h TI.h (by omega) (by omega)) rfl ?_ | (refine VO_bare rfl rfl rfl rfl ?_; refine VO_q (Q_index_own rfl rfl .own rfl TE.h TI.h (by omega) (by omega)) rfl ?_) | refine VQ_run rfl rfl rfl rfl (Q_index_own rfl rfl .own rfl TE.h TI.h (by omega) (by omega)) rfl ?_) | (first | refine VO_nil ?_ | refine VQ_nil ?_) | (first | refine V_seq_region ?_ | refine V_seq (V_seq_region ?_) | refine V_seq_draw tmix (by kernel_rfl) ?_ | refine V_seq (V_seq_draw tmix (by kernel_rfl) ?_) | refine V_region ?_ | refine V_draw tmix (by kernel_rfl) ?_))
    refine VR_store (u := .st [.i .i64 a_0, .s a_1, .sl 3 a_2]) rfl rfl (by repeat (first | exact rfl | constructor)) (by decide) TI.h rfl (by omega) (by repeat constructor) (by repeat constructor) ?_
    rw [Int.toNat_natCast, hset]
    repeat (first | refine VO_d ?_ | refine VQ_d ?_  | (first | refine VO_nil ?_ | refine VQ_nil ?_) | (first | refine V_seq_region ?_ | refine V_seq (V_seq_region ?_) | refine V_seq_draw tmix (by kernel_rfl) ?_ | refine V_seq (V_seq_draw tmix (by kernel_rfl) ?_) | refine V_region ?_ | refine V_draw tmix (by kernel_rfl) ?_))
    refine ⟨k + 1, by omega, by omega, ⟨rfl, ⟨⟨rfl, rfl⟩, ⟨rfl, rfl⟩, ⟨rfl, rfl⟩, trivial⟩, ⟨_, rfl⟩, rfl⟩⟩
  · refine V_exit ?_
    simp only [decide_eq_false_iff_not] at hc2
    have hkl : k = us.length := by omega
    subst hkl
    show V _ _ _ _ _
    repeat (first | refine VO_d ?_ | refine VQ_d ?_  | (first | refine VO_nil ?_ | refine VQ_nil ?_) | (first | refine V_seq_region ?_ | refine V_seq (V_seq_region ?_) | refine V_seq_draw tmix (by kernel_rfl) ?_ | refine V_seq (V_seq_draw tmix (by kernel_rfl) ?_) | refine V_region ?_ | refine V_draw tmix (by kernel_rfl) ?_))
    refine V_cast [.own 26 3 0 us] (by rw [fillU_all]) ?_
    refine V_ret ?_
    exact ⟨trivial, _, (by repeat (first | exact rfl | exact ResV_ag rfl rfl TI.h rfl rfl | exact ResV_one rfl rfl TI.h rfl | constructor)), by decide⟩

set_option maxHeartbeats 4000000 in
theorem toOType_step {f0 : Int} {f1 : List UInt8} {f2 : List U} (h1 : f1.length ≤ big) (h2 : PToO 58 [26] (.sl 3 f2)) : PToO 57 [26] (.st [.i .i64 f0, .s f1, .sl 3 f2]) := by
  intro hw
  have hW : W (.st [.i .i64 f0, .s f1, .sl 3 f2]) = 0 + (f1.length + (W (U.sl 3 f2) + 0)) := rfl
  have c2 := h2 (by omega)
  clear h2
  clear hW hw
  refine SpecO_intro Try.func57 rfl (by kernel_rfl) rfl (by simp) fun A => ?_
  repeat (first | refine VO_d ?_ | refine VQ_d ?_  | (first | refine VO_nil ?_ | refine VQ_nil ?_) | (first | refine V_seq_region ?_ | refine V_seq (V_seq_region ?_) | refine V_seq_draw tmix (by kernel_rfl) ?_ | refine V_seq (V_seq_draw tmix (by kernel_rfl) ?_) | refine V_region ?_ | refine V_draw tmix (by kernel_rfl) ?_))
  refine VO_callO rfl c2 (by repeat (first | exact trivial | exact rfl | exact ⟨_, rfl⟩ | refine And.intro ?_ ?_)) (by repeat constructor) (by repeat (first | exact rfl | constructor)) (by repeat constructor) rfl ?_
  repeat (first | refine VO_d ?_ | refine VQ_d ?_  | (first | refine VO_nil ?_ | refine VQ_nil ?_) | (first | refine V_seq_region ?_ | refine V_seq (V_seq_region ?_) | refine V_seq_draw tmix (by kernel_rfl) ?_ | refine V_seq (V_seq_draw tmix (by kernel_rfl) ?_) | refine V_region ?_ | refine V_draw tmix (by kernel_rfl) ?_))
  refine V_ret ?_
  exact ⟨trivial, _, (by repeat (first | exact rfl | exact ResV_ag rfl rfl TI.h rfl rfl | exact ResV_one rfl rfl TI.h rfl | constructor)), by decide⟩

theorem toOType_grp (u : U) : (wt (.st 1) u → PToO 57 [26] u) := by
  refine U.ind (M := fun u => (wt (.st 1) u → PToO 57 [26] u)) (fun u ih => ?_) u
  refine ?_
  · intro h
    obtain ⟨f0, f1, f2, rfl, p0, p1, p2⟩ := inv_Type h
    exact toOType_step p1 (toOTypeS_step p2.2 (fun a ha => (ih a (by have := nn_of_mem ha; simp only [U.nn, U.nns]; omega)) (p2.2 a ha)))
theorem toOType_all {u : U} (h : wt (.st 1) u) : PToO 57 [26] u := (toOType_grp u) h
theorem toOTypeS_all {us : List U} (h : us.length ≤ big ∧ ∀ x ∈ us, wt (.st 1) x) : PToO 58 [26] (.sl 3 us) := toOTypeS_step h.2 (fun a ha => toOType_all (h.2 a ha))
theorem zt_Param : ZeroT (.st [.s [], .st [.i .i64 0, .s [], .sl 3 []]]) [.string ⟨#[]⟩, .int .i64 0, .string ⟨#[]⟩, .slice none 0 0] := zeroT (by repeat constructor) (by repeat constructor)
set_option maxHeartbeats 4000000 in
theorem toOParamS_step {us : List U} (hz : ∀ a ∈ us, wt (.st 12) a) (ih : ∀ a ∈ us, PToO 33 [26] a) : PToO 8 [88] (.sl 4 us) := by
  intro hw
  have hW : W (.sl 4 us) = us.length + Ws us := rfl
  refine SpecO_intro Try.func8 rfl (by kernel_rfl) rfl (by simp) fun A => ?_
  repeat (first | refine VO_d ?_ | refine VQ_d ?_  | (first | refine VO_nil ?_ | refine VQ_nil ?_) | (first | refine V_seq_region ?_ | refine V_seq (V_seq_region ?_) | refine V_seq_draw tmix (by kernel_rfl) ?_ | refine V_seq (V_seq_draw tmix (by kernel_rfl) ?_) | refine V_region ?_ | refine V_draw tmix (by kernel_rfl) ?_))
  refine VR_make rfl rfl TE.h TI.h TZ.h rfl zt_Param (by omega) (by omega) (by rw [big_eq]; omega) (by omega) rfl (by repeat constructor) ?_
  rw [Int.toNat_natCast, fillU_zero]
  repeat (first | refine VO_d ?_ | refine VQ_d ?_  | (first | refine VO_nil ?_ | refine VQ_nil ?_) | (first | refine V_seq_region ?_ | refine V_seq (V_seq_region ?_) | refine V_seq_draw tmix (by kernel_rfl) ?_ | refine V_seq (V_seq_draw tmix (by kernel_rfl) ?_) | refine V_region ?_ | refine V_draw tmix (by kernel_rfl) ?_))
  refine V_block ?_
  refine V_loop (α := Nat)
    (fun k => ⟨[(0, .d (.sl 4 us)), (3, .sl 0 0), (4, .d (.i .i64 k))], [.own 88 4 0 (fillU us (.st [.s [], .st [.i .i64 0, .s [], .sl 3 []]]) k)], Try.f8.ntmps⟩)
    (fun k => k ≤ us.length)
    (fun k => us.length - k) 0 ⟨rfl, ⟨⟨rfl, rfl⟩, ⟨rfl, rfl⟩, ⟨rfl, rfl⟩, trivial⟩, ⟨[], rfl⟩, rfl⟩ (by simp) ?_
  intro k hk
  repeat (first | refine VO_d ?_ | refine VQ_d ?_  | (first | refine VO_nil ?_ | refine VQ_nil ?_) | (first | refine V_seq_region ?_ | refine V_seq (V_seq_region ?_) | refine V_seq_draw tmix (by kernel_rfl) ?_ | refine V_seq (V_seq_draw tmix (by kernel_rfl) ?_) | refine V_region ?_ | refine V_draw tmix (by kernel_rfl) ?_))
  (first | refine V_cond rfl (fun hc2 => ?_) (fun hc2 => ?_) | refine V_seq (V_cond rfl (fun hc2 => ?_) (fun hc2 => ?_)))
  · refine V_skip ?_
    simp only [decide_eq_true_eq] at hc2
    have hkl : k < us.length := by omega
    obtain ⟨a, hget⟩ : ∃ a, us[k]? = some a := ⟨_, List.getElem?_eq_getElem hkl⟩
    have hmem := List.mem_of_getElem? hget
    have hwk := W_le_of_mem hmem
    have hfl : (fillU us (.st [.s [], .st [.i .i64 0, .s [], .sl 3 []]]) k).length = us.length := fillU_length hk
    have hset := fillU_set (zu := .st [.s [], .st [.i .i64 0, .s [], .sl 3 []]]) hget
    have hcall := ih a hmem (by omega)
    have hwa := hz a hmem
    obtain ⟨a_0, a_1, rfl, hwa_0, hwa_1⟩ := inv_Param hwa
    obtain ⟨a_1_0, a_1_1, a_1_2, rfl, hwa_1_0, hwa_1_1, hwa_1_2⟩ := inv_Type hwa_1
    refine V_seq (V_block ?_)
    repeat (first | refine VO_d ?_ | refine VQ_d ?_ | (first | refine VO_q (Q_index rfl rfl TE.h TI.h (by omega) hget) rfl ?_ | refine VQ_q (Q_index rfl rfl TE.h TI.h (by omega) hget) rfl ?_ | (refine VO_bare rfl rfl rfl rfl ?_; refine VO_q (Q_index rfl rfl TE.h TI.h (by omega) hget) rfl ?_) | refine VQ_run rfl rfl rfl rfl (Q_index rfl rfl TE.h TI.h (by omega) hget) rfl ?_) | (first | refine VO_q (Q_index_own rfl rfl .own rfl TE.h TI.h (by omega) (by omega)) rfl ?_ | refine VQ_q (Q_index_own rfl rfl .own rfl TE.h TI.h (by omega) (by omega)) rfl ?_ | (refine VO_bare rfl rfl rfl rfl ?_; refine VO_q (Q_index_own rfl rfl .own rfl TE.h TI.h (by omega) (by omega)) rfl ?_) | refine VQ_run rfl rfl rfl rfl (Q_index_own rfl rfl .own rfl TE.h TI.h (by omega) (by omega)) rfl ?_) | (first | refine VO_nil ?_ | refine VQ_nil ?_) | (first | refine V_seq_region ?_ | refine V_seq (V_seq_region ?_) | refine V_seq_draw tmix (by kernel_rfl) ?_ | refine V_seq (V_seq_draw tmix (by kernel_rfl) ?_) | refine V_region ?_ | refine V_draw tmix (by kernel_rfl) ?_))
    refine VO_callO rfl hcall (by repeat (first | exact trivial | exact rfl | exact ⟨_, rfl⟩ | refine And.intro ?_ ?_)) (by repeat constructor) (by repeat (first | exact rfl | constructor)) (by repeat constructor) rfl ?_
    repeat (first | refine VO_d ?_ | refine VQ_d ?_ | (first | refine VO_q (Q_index rfl rfl TE.h TI.h (by omega) hget) rfl ?_ | refine VQ_q (Q_index rfl rfl TE.h TI.h (by omega) hget) rfl ?_ | (refine VO_bare rfl rfl rfl rfl ?_; refine VO_q (Q_index rfl rfl TE.h TI.h (by omega) hget) rfl ?_) | refine VQ_run rfl rfl rfl rfl (Q_index rfl rfl TE.h TI.h (by omega) hget) rfl ?_) | (first | refine VO_q (Q_index_own rfl rfl .own rfl TE.h TI.h (by omega) (by omega)) rfl ?_ | refine VQ_q (Q_index_own rfl rfl .own rfl TE.h TI.h (by omega) (by omega)) rfl ?_ | (refine VO_bare rfl rfl rfl rfl ?_; refine VO_q (Q_index_own rfl rfl .own rfl TE.h TI.h (by omega) (by omega)) rfl ?_) | refine VQ_run rfl rfl rfl rfl (Q_index_own rfl rfl .own rfl TE.h TI.h (by omega) (by omega)) rfl ?_) | (first | refine VO_nil ?_ | refine VQ_nil ?_) | (first | refine V_seq_region ?_ | refine V_seq (V_seq_region ?_) | refine V_seq_draw tmix (by kernel_rfl) ?_ | refine V_seq (V_seq_draw tmix (by kernel_rfl) ?_) | refine V_region ?_ | refine V_draw tmix (by kernel_rfl) ?_))
    refine VR_store (u := .st [.s a_0, .st [.i .i64 a_1_0, .s a_1_1, .sl 3 a_1_2]]) rfl rfl (by repeat (first | exact rfl | constructor)) (by decide) TI.h rfl (by omega) (by repeat constructor) (by repeat constructor) ?_
    rw [Int.toNat_natCast, hset]
    repeat (first | refine VO_d ?_ | refine VQ_d ?_  | (first | refine VO_nil ?_ | refine VQ_nil ?_) | (first | refine V_seq_region ?_ | refine V_seq (V_seq_region ?_) | refine V_seq_draw tmix (by kernel_rfl) ?_ | refine V_seq (V_seq_draw tmix (by kernel_rfl) ?_) | refine V_region ?_ | refine V_draw tmix (by kernel_rfl) ?_))
    refine ⟨k + 1, by omega, by omega, ⟨rfl, ⟨⟨rfl, rfl⟩, ⟨rfl, rfl⟩, ⟨rfl, rfl⟩, trivial⟩, ⟨_, rfl⟩, rfl⟩⟩
  · refine V_exit ?_
    simp only [decide_eq_false_iff_not] at hc2
    have hkl : k = us.length := by omega
    subst hkl
    show V _ _ _ _ _
    repeat (first | refine VO_d ?_ | refine VQ_d ?_  | (first | refine VO_nil ?_ | refine VQ_nil ?_) | (first | refine V_seq_region ?_ | refine V_seq (V_seq_region ?_) | refine V_seq_draw tmix (by kernel_rfl) ?_ | refine V_seq (V_seq_draw tmix (by kernel_rfl) ?_) | refine V_region ?_ | refine V_draw tmix (by kernel_rfl) ?_))
    refine V_cast [.own 88 4 0 us] (by rw [fillU_all]) ?_
    refine V_ret ?_
    exact ⟨trivial, _, (by repeat (first | exact rfl | exact ResV_ag rfl rfl TI.h rfl rfl | exact ResV_one rfl rfl TI.h rfl | constructor)), by decide⟩

set_option maxHeartbeats 4000000 in
theorem toOParam_step {f0 : List UInt8} {f1 : U} (h0 : f0.length ≤ big) (g1 : wt (.st 1) f1) (h1 : PToO 57 [26] f1) : PToO 33 [26] (.st [.s f0, f1]) := by
  intro hw
  have hW : W (.st [.s f0, f1]) = f0.length + (W f1 + 0) := rfl
  have c1 := h1 (by omega)
  clear h1
  clear hW hw
  obtain ⟨f1_0, f1_1, f1_2, rfl, g1_0, g1_1, g1_2⟩ := inv_Type g1
  refine SpecO_intro Try.func33 rfl (by kernel_rfl) rfl (by simp) fun A => ?_
  repeat (first | refine VO_d ?_ | refine VQ_d ?_  | (first | refine VO_nil ?_ | refine VQ_nil ?_) | (first | refine V_seq_region ?_ | refine V_seq (V_seq_region ?_) | refine V_seq_draw tmix (by kernel_rfl) ?_ | refine V_seq (V_seq_draw tmix (by kernel_rfl) ?_) | refine V_region ?_ | refine V_draw tmix (by kernel_rfl) ?_))
  refine VO_callO rfl c1 (by repeat (first | exact trivial | exact rfl | exact ⟨_, rfl⟩ | refine And.intro ?_ ?_)) (by repeat constructor) (by repeat (first | exact rfl | constructor)) (by repeat constructor) rfl ?_
  repeat (first | refine VO_d ?_ | refine VQ_d ?_  | (first | refine VO_nil ?_ | refine VQ_nil ?_) | (first | refine V_seq_region ?_ | refine V_seq (V_seq_region ?_) | refine V_seq_draw tmix (by kernel_rfl) ?_ | refine V_seq (V_seq_draw tmix (by kernel_rfl) ?_) | refine V_region ?_ | refine V_draw tmix (by kernel_rfl) ?_))
  refine V_ret ?_
  exact ⟨trivial, _, (by repeat (first | exact rfl | exact ResV_ag rfl rfl TI.h rfl rfl | exact ResV_one rfl rfl TI.h rfl | constructor)), by decide⟩

theorem toOParam_grp (u : U) : (wt (.st 12) u → PToO 33 [26] u) := by
  refine U.ind (M := fun u => (wt (.st 12) u → PToO 33 [26] u)) (fun u ih => ?_) u
  refine ?_
  · intro h
    obtain ⟨f0, f1, rfl, p0, p1⟩ := inv_Param h
    exact toOParam_step p0 p1 (toOType_all p1)
theorem toOParam_all {u : U} (h : wt (.st 12) u) : PToO 33 [26] u := (toOParam_grp u) h
theorem toOParamS_all {us : List U} (h : us.length ≤ big ∧ ∀ x ∈ us, wt (.st 12) x) : PToO 8 [88] (.sl 4 us) := toOParamS_step h.2 (fun a ha => toOParam_all (h.2 a ha))
end Go.Proofs.Ytjckkahiapjkfaa
