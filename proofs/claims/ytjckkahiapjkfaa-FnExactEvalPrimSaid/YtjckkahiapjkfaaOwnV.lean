/- The contracts of the laws' own helpers that own or turn memory. Written by a program of mine (famO.py). -/
import Derived.Test.YtjckkahiapjkfaaFamV
import Derived.Test.YtjckkahiapjkfaaEng28
set_option linter.unusedVariables false
set_option linter.unusedSimpArgs false
namespace Go.Proofs.Ytjckkahiapjkfaa
open Go Go.Eng
attribute [local irreducible] V VO VQ VY Quiet SpecP SpecO MSpec
abbrev PToO (f : Nat) (es : List TypeId) (u : U) : Prop := W u ≤ 1048576 → SpecO Try.prog f [.d u] es [u]
abbrev PMk (f : Nat) (u : U) : Prop := ∀ k : Int, 0 < k → k + u.lf ≤ 4611686018427387904 → MSpec Try.prog f u k (u.mkt k).1 (u.mkt k).2
abbrev PHe (f : Nat) (u : U) : Prop := ∀ k : Int, 0 < k → k + u.lf ≤ 4611686018427387904 → SpecP Try.prog f [.d (u.mkt k).1, .d (.i .i64 k)] [.i .i64 (u.mkt k).2]

set_option maxHeartbeats 4000000 in
theorem toOInstanceRef_step {f0 : Int} {f1 : Int}  : PToO 79 [] (.st [.i .i64 f0, .i .i64 f1]) := by
  intro hw
  have hW : W (.st [.i .i64 f0, .i .i64 f1]) = 0 + (0 + 0) := rfl
  clear hW hw
  refine SpecO_intro Try.func79 rfl (by kernel_rfl) rfl (by simp) fun A => ?_
  repeat (first | refine VO_d ?_ | refine VQ_d ?_  | (first | refine VO_nil ?_ | refine VQ_nil ?_) | (first | refine V_seq_region ?_ | refine V_seq (V_seq_region ?_) | refine V_seq_draw tmix (by kernel_rfl) ?_ | refine V_seq (V_seq_draw tmix (by kernel_rfl) ?_) | refine V_region ?_ | refine V_draw tmix (by kernel_rfl) ?_))
  refine V_ret ?_
  exact ⟨trivial, _, (by repeat (first | exact rfl | exact ResV_ag rfl rfl TI.h rfl rfl | exact ResV_one rfl rfl TI.h rfl | constructor)), by decide⟩

theorem toOInstanceRef_grp (u : U) : (wt (.st 16) u → PToO 79 [] u) := by
  refine U.ind (M := fun u => (wt (.st 16) u → PToO 79 [] u)) (fun u ih => ?_) u
  refine ?_
  · intro h
    obtain ⟨f0, f1, rfl, p0, p1⟩ := inv_InstanceRef h
    exact toOInstanceRef_step 
theorem toOInstanceRef_all {u : U} (h : wt (.st 16) u) : PToO 79 [] u := (toOInstanceRef_grp u) h
theorem zt_Int : ZeroT (.i .i64 0) [.int .i64 0] := zeroT (by repeat constructor) (by repeat constructor)
set_option maxHeartbeats 4000000 in
theorem toOIntS_step {us : List U} (hz : ∀ a ∈ us, wt (.int) a) : PToO 80 [3] (.sl 1 us) := by
  intro hw
  have hW : W (.sl 1 us) = us.length + Ws us := rfl
  refine SpecO_intro Try.func80 rfl (by kernel_rfl) rfl (by simp) fun A => ?_
  repeat (first | refine VO_d ?_ | refine VQ_d ?_  | (first | refine VO_nil ?_ | refine VQ_nil ?_) | (first | refine V_seq_region ?_ | refine V_seq (V_seq_region ?_) | refine V_seq_draw tmix (by kernel_rfl) ?_ | refine V_seq (V_seq_draw tmix (by kernel_rfl) ?_) | refine V_region ?_ | refine V_draw tmix (by kernel_rfl) ?_))
  refine VR_make rfl rfl TE.h TI.h TZ.h rfl zt_Int (by omega) (by omega) (by rw [big_eq]; omega) (by omega) rfl (by repeat constructor) ?_
  rw [Int.toNat_natCast, fillU_zero]
  repeat (first | refine VO_d ?_ | refine VQ_d ?_  | (first | refine VO_nil ?_ | refine VQ_nil ?_) | (first | refine V_seq_region ?_ | refine V_seq (V_seq_region ?_) | refine V_seq_draw tmix (by kernel_rfl) ?_ | refine V_seq (V_seq_draw tmix (by kernel_rfl) ?_) | refine V_region ?_ | refine V_draw tmix (by kernel_rfl) ?_))
  refine V_block ?_
  refine V_loop (α := Nat)
    (fun k => ⟨[(0, .d (.sl 1 us)), (3, .sl 0 0), (4, .d (.i .i64 k))], [.own 3 1 0 (fillU us (.i .i64 0) k)], Try.f80.ntmps⟩)
    (fun k => k ≤ us.length)
    (fun k => us.length - k) 0 ⟨rfl, ⟨⟨rfl, rfl⟩, ⟨rfl, rfl⟩, ⟨rfl, rfl⟩, trivial⟩, ⟨[], rfl⟩, rfl⟩ (by simp) ?_
  intro k hk
  repeat (first | refine VO_d ?_ | refine VQ_d ?_  | (first | refine VO_nil ?_ | refine VQ_nil ?_) | (first | refine V_seq_region ?_ | refine V_seq (V_seq_region ?_) | refine V_seq_draw tmix (by kernel_rfl) ?_ | refine V_seq (V_seq_draw tmix (by kernel_rfl) ?_) | refine V_region ?_ | refine V_draw tmix (by kernel_rfl) ?_))
  (first | refine V_cond rfl (fun hc2 => ?_) (fun hc2 => ?_) | refine V_seq (V_cond rfl (fun hc2 => ?_) (fun hc2 => ?_)))
  · refine V_skip ?_
    simp only [decide_eq_true_eq] at hc2
    have hkl : k < us.length := by omega
    obtain ⟨a, hget⟩ : ∃ a, us[k]? = some a := ⟨_, List.getElem?_eq_getElem hkl⟩
    have hmem := List.mem_of_getElem? hget
    have hwk := W_le_of_mem hmem
    have hfl : (fillU us (.i .i64 0) k).length = us.length := fillU_length hk
    have hset := fillU_set (zu := .i .i64 0) hget
    obtain ⟨n, rfl, _⟩ := inv_int (hz a hmem)
    refine V_seq (V_block ?_)
    repeat (first | refine VO_d ?_ | refine VQ_d ?_ | (first | refine VO_q (Q_index rfl rfl TE.h TI.h (by omega) hget) rfl ?_ | refine VQ_q (Q_index rfl rfl TE.h TI.h (by omega) hget) rfl ?_ | (refine VO_bare rfl rfl rfl rfl ?_; refine VO_q (Q_index rfl rfl TE.h TI.h (by omega) hget) rfl ?_) | refine VQ_run rfl rfl rfl rfl (Q_index rfl rfl TE.h TI.h (by omega) hget) rfl ?_) | (first | refine VO_q (Q_index_own rfl rfl .own rfl TE.h TI.h (by omega) (by omega)) rfl ?_ | refine VQ_q (Q_index_own rfl rfl .own rfl TE.h TI.h (by omega) (by omega)) rfl ?_ | (refine VO_bare rfl rfl rfl rfl ?_; refine VO_q (Q_index_own rfl rfl .own rfl TE.h TI.h (by omega) (by omega)) rfl ?_) | refine VQ_run rfl rfl rfl rfl (Q_index_own rfl rfl .own rfl TE.h TI.h (by omega) (by omega)) rfl ?_) | (first | refine VO_nil ?_ | refine VQ_nil ?_) | (first | refine V_seq_region ?_ | refine V_seq (V_seq_region ?_) | refine V_seq_draw tmix (by kernel_rfl) ?_ | refine V_seq (V_seq_draw tmix (by kernel_rfl) ?_) | refine V_region ?_ | refine V_draw tmix (by kernel_rfl) ?_))
    refine VR_store (u := .i .i64 n) rfl rfl (by repeat (first | exact rfl | constructor)) (by decide) TI.h rfl (by omega) (by repeat constructor) (by repeat constructor) ?_
    rw [Int.toNat_natCast, hset]
    repeat (first | refine VO_d ?_ | refine VQ_d ?_  | (first | refine VO_nil ?_ | refine VQ_nil ?_) | (first | refine V_seq_region ?_ | refine V_seq (V_seq_region ?_) | refine V_seq_draw tmix (by kernel_rfl) ?_ | refine V_seq (V_seq_draw tmix (by kernel_rfl) ?_) | refine V_region ?_ | refine V_draw tmix (by kernel_rfl) ?_))
    refine ⟨k + 1, by omega, by omega, ⟨rfl, ⟨⟨rfl, rfl⟩, ⟨rfl, rfl⟩, ⟨rfl, rfl⟩, trivial⟩, ⟨_, rfl⟩, rfl⟩⟩
  · refine V_exit ?_
    simp only [decide_eq_false_iff_not] at hc2
    have hkl : k = us.length := by omega
    subst hkl
    show V _ _ _ _ _
    repeat (first | refine VO_d ?_ | refine VQ_d ?_  | (first | refine VO_nil ?_ | refine VQ_nil ?_) | (first | refine V_seq_region ?_ | refine V_seq (V_seq_region ?_) | refine V_seq_draw tmix (by kernel_rfl) ?_ | refine V_seq (V_seq_draw tmix (by kernel_rfl) ?_) | refine V_region ?_ | refine V_draw tmix (by kernel_rfl) ?_))
    refine V_cast [.own 3 1 0 us] (by rw [fillU_all]) ?_
    refine V_ret ?_
    exact ⟨trivial, _, (by repeat (first | exact rfl | exact ResV_ag rfl rfl TI.h rfl rfl | exact ResV_one rfl rfl TI.h rfl | constructor)), by decide⟩

theorem toOIntS_all {us : List U} (h : us.length ≤ big ∧ ∀ x ∈ us, wt .int x) : PToO 80 [3] (.sl 1 us) := toOIntS_step h.2
theorem zt_Dictionary : ZeroT (.st [.i .i64 0, .st [.i .i64 0, .i .i64 0], .sl 1 [], .sl 5 []]) [.int .i64 0, .int .i64 0, .int .i64 0, .slice none 0 0, .slice none 0 0] := zeroT (by repeat constructor) (by repeat constructor)
set_option maxHeartbeats 4000000 in
theorem toODictionaryS_step {us : List U} (hz : ∀ a ∈ us, wt (.st 26) a) (ih : ∀ a ∈ us, PToO 43 [3, 49] a) : PToO 81 [49] (.sl 5 us) := by
  intro hw
  have hW : W (.sl 5 us) = us.length + Ws us := rfl
  refine SpecO_intro Try.func81 rfl (by kernel_rfl) rfl (by simp) fun A => ?_
  repeat (first | refine VO_d ?_ | refine VQ_d ?_  | (first | refine VO_nil ?_ | refine VQ_nil ?_) | (first | refine V_seq_region ?_ | refine V_seq (V_seq_region ?_) | refine V_seq_draw tmix (by kernel_rfl) ?_ | refine V_seq (V_seq_draw tmix (by kernel_rfl) ?_) | refine V_region ?_ | refine V_draw tmix (by kernel_rfl) ?_))
  refine VR_make rfl rfl TE.h TI.h TZ.h rfl zt_Dictionary (by omega) (by omega) (by rw [big_eq]; omega) (by omega) rfl (by repeat constructor) ?_
  rw [Int.toNat_natCast, fillU_zero]
  repeat (first | refine VO_d ?_ | refine VQ_d ?_  | (first | refine VO_nil ?_ | refine VQ_nil ?_) | (first | refine V_seq_region ?_ | refine V_seq (V_seq_region ?_) | refine V_seq_draw tmix (by kernel_rfl) ?_ | refine V_seq (V_seq_draw tmix (by kernel_rfl) ?_) | refine V_region ?_ | refine V_draw tmix (by kernel_rfl) ?_))
  refine V_block ?_
  refine V_loop (α := Nat)
    (fun k => ⟨[(0, .d (.sl 5 us)), (3, .sl 0 0), (4, .d (.i .i64 k))], [.own 49 5 0 (fillU us (.st [.i .i64 0, .st [.i .i64 0, .i .i64 0], .sl 1 [], .sl 5 []]) k)], Try.f81.ntmps⟩)
    (fun k => k ≤ us.length)
    (fun k => us.length - k) 0 ⟨rfl, ⟨⟨rfl, rfl⟩, ⟨rfl, rfl⟩, ⟨rfl, rfl⟩, trivial⟩, ⟨[], rfl⟩, rfl⟩ (by simp) ?_
  intro k hk
  repeat (first | refine VO_d ?_ | refine VQ_d ?_  | (first | refine VO_nil ?_ | refine VQ_nil ?_) | (first | refine V_seq_region ?_ | refine V_seq (V_seq_region ?_) | refine V_seq_draw tmix (by kernel_rfl) ?_ | refine V_seq (V_seq_draw tmix (by kernel_rfl) ?_) | refine V_region ?_ | refine V_draw tmix (by kernel_rfl) ?_))
  (first | refine V_cond rfl (fun hc2 => ?_) (fun hc2 => ?_) | refine V_seq (V_cond rfl (fun hc2 => ?_) (fun hc2 => ?_)))
  · refine V_skip ?_
    simp only [decide_eq_true_eq] at hc2
    have hkl : k < us.length := by omega
    obtain ⟨a, hget⟩ : ∃ a, us[k]? = some a := ⟨_, List.getElem?_eq_getElem hkl⟩
    have hmem := List.mem_of_getElem? hget
    have hwk := W_le_of_mem hmem
    have hfl : (fillU us (.st [.i .i64 0, .st [.i .i64 0, .i .i64 0], .sl 1 [], .sl 5 []]) k).length = us.length := fillU_length hk
    have hset := fillU_set (zu := .st [.i .i64 0, .st [.i .i64 0, .i .i64 0], .sl 1 [], .sl 5 []]) hget
    have hcall := ih a hmem (by omega)
    have hwa := hz a hmem
    obtain ⟨a_0, a_1, a_2, a_3, rfl, hwa_0, hwa_1, hwa_2, hwa_3⟩ := inv_Dictionary hwa
    obtain ⟨a_1_0, a_1_1, rfl, hwa_1_0, hwa_1_1⟩ := inv_InstanceRef hwa_1
    refine V_seq (V_block ?_)
    repeat (first | refine VO_d ?_ | refine VQ_d ?_ | (first | refine VO_q (Q_index rfl rfl TE.h TI.h (by omega) hget) rfl ?_ | refine VQ_q (Q_index rfl rfl TE.h TI.h (by omega) hget) rfl ?_ | (refine VO_bare rfl rfl rfl rfl ?_; refine VO_q (Q_index rfl rfl TE.h TI.h (by omega) hget) rfl ?_) | refine VQ_run rfl rfl rfl rfl (Q_index rfl rfl TE.h TI.h (by omega) hget) rfl ?_) | (first | refine VO_q (Q_index_own rfl rfl .own rfl TE.h TI.h (by omega) (by omega)) rfl ?_ | refine VQ_q (Q_index_own rfl rfl .own rfl TE.h TI.h (by omega) (by omega)) rfl ?_ | (refine VO_bare rfl rfl rfl rfl ?_; refine VO_q (Q_index_own rfl rfl .own rfl TE.h TI.h (by omega) (by omega)) rfl ?_) | refine VQ_run rfl rfl rfl rfl (Q_index_own rfl rfl .own rfl TE.h TI.h (by omega) (by omega)) rfl ?_) | (first | refine VO_nil ?_ | refine VQ_nil ?_) | (first | refine V_seq_region ?_ | refine V_seq (V_seq_region ?_) | refine V_seq_draw tmix (by kernel_rfl) ?_ | refine V_seq (V_seq_draw tmix (by kernel_rfl) ?_) | refine V_region ?_ | refine V_draw tmix (by kernel_rfl) ?_))
    refine VO_callO rfl hcall (by (repeat (first | exact trivial | exact rfl | exact ⟨_, rfl⟩ | refine And.intro ?_ ?_)); first | done | fail) (by repeat constructor) (by repeat (first | exact rfl | constructor)) (by repeat constructor) rfl ?_
    repeat (first | refine VO_d ?_ | refine VQ_d ?_ | (first | refine VO_q (Q_index rfl rfl TE.h TI.h (by omega) hget) rfl ?_ | refine VQ_q (Q_index rfl rfl TE.h TI.h (by omega) hget) rfl ?_ | (refine VO_bare rfl rfl rfl rfl ?_; refine VO_q (Q_index rfl rfl TE.h TI.h (by omega) hget) rfl ?_) | refine VQ_run rfl rfl rfl rfl (Q_index rfl rfl TE.h TI.h (by omega) hget) rfl ?_) | (first | refine VO_q (Q_index_own rfl rfl .own rfl TE.h TI.h (by omega) (by omega)) rfl ?_ | refine VQ_q (Q_index_own rfl rfl .own rfl TE.h TI.h (by omega) (by omega)) rfl ?_ | (refine VO_bare rfl rfl rfl rfl ?_; refine VO_q (Q_index_own rfl rfl .own rfl TE.h TI.h (by omega) (by omega)) rfl ?_) | refine VQ_run rfl rfl rfl rfl (Q_index_own rfl rfl .own rfl TE.h TI.h (by omega) (by omega)) rfl ?_) | (first | refine VO_nil ?_ | refine VQ_nil ?_) | (first | refine V_seq_region ?_ | refine V_seq (V_seq_region ?_) | refine V_seq_draw tmix (by kernel_rfl) ?_ | refine V_seq (V_seq_draw tmix (by kernel_rfl) ?_) | refine V_region ?_ | refine V_draw tmix (by kernel_rfl) ?_))
    refine VR_store (u := .st [.i .i64 a_0, .st [.i .i64 a_1_0, .i .i64 a_1_1], .sl 1 a_2, .sl 5 a_3]) rfl rfl (by repeat (first | exact rfl | constructor)) (by decide) TI.h rfl (by omega) (by repeat constructor) (by repeat constructor) ?_
    rw [Int.toNat_natCast, hset]
    repeat (first | refine VO_d ?_ | refine VQ_d ?_  | (first | refine VO_nil ?_ | refine VQ_nil ?_) | (first | refine V_seq_region ?_ | refine V_seq (V_seq_region ?_) | refine V_seq_draw tmix (by kernel_rfl) ?_ | refine V_seq (V_seq_draw tmix (by kernel_rfl) ?_) | refine V_region ?_ | refine V_draw tmix (by kernel_rfl) ?_))
    refine ⟨k + 1, by omega, by omega, ⟨rfl, ⟨⟨rfl, rfl⟩, ⟨rfl, rfl⟩, ⟨rfl, rfl⟩, trivial⟩, ⟨_, rfl⟩, rfl⟩⟩
  · refine V_exit ?_
    simp only [decide_eq_false_iff_not] at hc2
    have hkl : k = us.length := by omega
    subst hkl
    show V _ _ _ _ _
    repeat (first | refine VO_d ?_ | refine VQ_d ?_  | (first | refine VO_nil ?_ | refine VQ_nil ?_) | (first | refine V_seq_region ?_ | refine V_seq (V_seq_region ?_) | refine V_seq_draw tmix (by kernel_rfl) ?_ | refine V_seq (V_seq_draw tmix (by kernel_rfl) ?_) | refine V_region ?_ | refine V_draw tmix (by kernel_rfl) ?_))
    refine V_cast [.own 49 5 0 us] (by rw [fillU_all]) ?_
    refine V_ret ?_
    exact ⟨trivial, _, (by repeat (first | exact rfl | exact ResV_ag rfl rfl TI.h rfl rfl | exact ResV_one rfl rfl TI.h rfl | constructor)), by decide⟩

set_option maxHeartbeats 4000000 in
theorem toODictionary_step {f0 : Int} {f1 : U} {f2 : List U} {f3 : List U} (g1 : wt (.st 16) f1) (h1 : PToO 79 [] f1) (h2 : PToO 80 [3] (.sl 1 f2)) (h3 : PToO 81 [49] (.sl 5 f3)) : PToO 43 [3, 49] (.st [.i .i64 f0, f1, .sl 1 f2, .sl 5 f3]) := by
  intro hw
  have hW : W (.st [.i .i64 f0, f1, .sl 1 f2, .sl 5 f3]) = 0 + (W f1 + (W (U.sl 1 f2) + (W (U.sl 5 f3) + 0))) := rfl
  have c1 := h1 (by omega)
  clear h1
  have c2 := h2 (by omega)
  clear h2
  have c3 := h3 (by omega)
  clear h3
  clear hW hw
  obtain ⟨f1_0, f1_1, rfl, g1_0, g1_1⟩ := inv_InstanceRef g1
  refine SpecO_intro Try.func43 rfl (by kernel_rfl) rfl (by simp) fun A => ?_
  repeat (first | refine VO_d ?_ | refine VQ_d ?_  | (first | refine VO_nil ?_ | refine VQ_nil ?_) | (first | refine V_seq_region ?_ | refine V_seq (V_seq_region ?_) | refine V_seq_draw tmix (by kernel_rfl) ?_ | refine V_seq (V_seq_draw tmix (by kernel_rfl) ?_) | refine V_region ?_ | refine V_draw tmix (by kernel_rfl) ?_))
  refine VO_callO rfl c1 (by (repeat (first | exact trivial | exact rfl | exact ⟨_, rfl⟩ | refine And.intro ?_ ?_)); first | done | fail) (by repeat constructor) (by repeat (first | exact rfl | constructor)) (by repeat constructor) rfl ?_
  repeat (first | refine VO_d ?_ | refine VQ_d ?_  | (first | refine VO_nil ?_ | refine VQ_nil ?_) | (first | refine V_seq_region ?_ | refine V_seq (V_seq_region ?_) | refine V_seq_draw tmix (by kernel_rfl) ?_ | refine V_seq (V_seq_draw tmix (by kernel_rfl) ?_) | refine V_region ?_ | refine V_draw tmix (by kernel_rfl) ?_))
  refine VO_callO rfl c2 (by (repeat (first | exact trivial | exact rfl | exact ⟨_, rfl⟩ | refine And.intro ?_ ?_)); first | done | fail) (by repeat constructor) (by repeat (first | exact rfl | constructor)) (by repeat constructor) rfl ?_
  repeat (first | refine VO_d ?_ | refine VQ_d ?_  | (first | refine VO_nil ?_ | refine VQ_nil ?_) | (first | refine V_seq_region ?_ | refine V_seq (V_seq_region ?_) | refine V_seq_draw tmix (by kernel_rfl) ?_ | refine V_seq (V_seq_draw tmix (by kernel_rfl) ?_) | refine V_region ?_ | refine V_draw tmix (by kernel_rfl) ?_))
  refine VO_callO rfl c3 (by (repeat (first | exact trivial | exact rfl | exact ⟨_, rfl⟩ | refine And.intro ?_ ?_)); first | done | fail) (by repeat constructor) (by repeat (first | exact rfl | constructor)) (by repeat constructor) rfl ?_
  repeat (first | refine VO_d ?_ | refine VQ_d ?_  | (first | refine VO_nil ?_ | refine VQ_nil ?_) | (first | refine V_seq_region ?_ | refine V_seq (V_seq_region ?_) | refine V_seq_draw tmix (by kernel_rfl) ?_ | refine V_seq (V_seq_draw tmix (by kernel_rfl) ?_) | refine V_region ?_ | refine V_draw tmix (by kernel_rfl) ?_))
  refine V_ret ?_
  exact ⟨trivial, _, (by repeat (first | exact rfl | exact ResV_ag rfl rfl TI.h rfl rfl | exact ResV_one rfl rfl TI.h rfl | constructor)), by decide⟩

theorem toODictionary_grp (u : U) : (wt (.st 26) u → PToO 43 [3, 49] u) := by
  refine U.ind (M := fun u => (wt (.st 26) u → PToO 43 [3, 49] u)) (fun u ih => ?_) u
  refine ?_
  · intro h
    obtain ⟨f0, f1, f2, f3, rfl, p0, p1, p2, p3⟩ := inv_Dictionary h
    exact toODictionary_step p1 (toOInstanceRef_all p1) (toOIntS_all p2) (toODictionaryS_step p3.2 (fun a ha => (ih a (by have := nn_of_mem ha; simp only [U.nn, U.nns]; omega)) (p3.2 a ha)))
theorem toODictionary_all {u : U} (h : wt (.st 26) u) : PToO 43 [3, 49] u := (toODictionary_grp u) h
theorem toODictionaryS_all {us : List U} (h : us.length ≤ big ∧ ∀ x ∈ us, wt (.st 26) x) : PToO 81 [49] (.sl 5 us) := toODictionaryS_step h.2 (fun a ha => toODictionary_all (h.2 a ha))
theorem zt_Value : ZeroT (.st [.i .i64 0, .i .i64 0, .s [], .st [.i .i64 0, .st [.i .i64 0, .i .i64 0], .sl 1 [], .sl 5 []], .sl 9 []]) [.int .i64 0, .int .i64 0, .string ⟨#[]⟩, .int .i64 0, .int .i64 0, .int .i64 0, .slice none 0 0, .slice none 0 0, .slice none 0 0] := zeroT (by repeat constructor) (by repeat constructor)
set_option maxHeartbeats 4000000 in
theorem toOValueS_step {us : List U} (hz : ∀ a ∈ us, wt (.st 27) a) (ih : ∀ a ∈ us, PToO 17 [3, 49, 52] a) : PToO 44 [52] (.sl 9 us) := by
  intro hw
  have hW : W (.sl 9 us) = us.length + Ws us := rfl
  refine SpecO_intro Try.func44 rfl (by kernel_rfl) rfl (by simp) fun A => ?_
  repeat (first | refine VO_d ?_ | refine VQ_d ?_  | (first | refine VO_nil ?_ | refine VQ_nil ?_) | (first | refine V_seq_region ?_ | refine V_seq (V_seq_region ?_) | refine V_seq_draw tmix (by kernel_rfl) ?_ | refine V_seq (V_seq_draw tmix (by kernel_rfl) ?_) | refine V_region ?_ | refine V_draw tmix (by kernel_rfl) ?_))
  refine VR_make rfl rfl TE.h TI.h TZ.h rfl zt_Value (by omega) (by omega) (by rw [big_eq]; omega) (by omega) rfl (by repeat constructor) ?_
  rw [Int.toNat_natCast, fillU_zero]
  repeat (first | refine VO_d ?_ | refine VQ_d ?_  | (first | refine VO_nil ?_ | refine VQ_nil ?_) | (first | refine V_seq_region ?_ | refine V_seq (V_seq_region ?_) | refine V_seq_draw tmix (by kernel_rfl) ?_ | refine V_seq (V_seq_draw tmix (by kernel_rfl) ?_) | refine V_region ?_ | refine V_draw tmix (by kernel_rfl) ?_))
  refine V_block ?_
  refine V_loop (α := Nat)
    (fun k => ⟨[(0, .d (.sl 9 us)), (3, .sl 0 0), (4, .d (.i .i64 k))], [.own 52 9 0 (fillU us (.st [.i .i64 0, .i .i64 0, .s [], .st [.i .i64 0, .st [.i .i64 0, .i .i64 0], .sl 1 [], .sl 5 []], .sl 9 []]) k)], Try.f44.ntmps⟩)
    (fun k => k ≤ us.length)
    (fun k => us.length - k) 0 ⟨rfl, ⟨⟨rfl, rfl⟩, ⟨rfl, rfl⟩, ⟨rfl, rfl⟩, trivial⟩, ⟨[], rfl⟩, rfl⟩ (by simp) ?_
  intro k hk
  repeat (first | refine VO_d ?_ | refine VQ_d ?_  | (first | refine VO_nil ?_ | refine VQ_nil ?_) | (first | refine V_seq_region ?_ | refine V_seq (V_seq_region ?_) | refine V_seq_draw tmix (by kernel_rfl) ?_ | refine V_seq (V_seq_draw tmix (by kernel_rfl) ?_) | refine V_region ?_ | refine V_draw tmix (by kernel_rfl) ?_))
  (first | refine V_cond rfl (fun hc2 => ?_) (fun hc2 => ?_) | refine V_seq (V_cond rfl (fun hc2 => ?_) (fun hc2 => ?_)))
  · refine V_skip ?_
    simp only [decide_eq_true_eq] at hc2
    have hkl : k < us.length := by omega
    obtain ⟨a, hget⟩ : ∃ a, us[k]? = some a := ⟨_, List.getElem?_eq_getElem hkl⟩
    have hmem := List.mem_of_getElem? hget
    have hwk := W_le_of_mem hmem
    have hfl : (fillU us (.st [.i .i64 0, .i .i64 0, .s [], .st [.i .i64 0, .st [.i .i64 0, .i .i64 0], .sl 1 [], .sl 5 []], .sl 9 []]) k).length = us.length := fillU_length hk
    have hset := fillU_set (zu := .st [.i .i64 0, .i .i64 0, .s [], .st [.i .i64 0, .st [.i .i64 0, .i .i64 0], .sl 1 [], .sl 5 []], .sl 9 []]) hget
    have hcall := ih a hmem (by omega)
    have hwa := hz a hmem
    obtain ⟨a_0, a_1, a_2, a_3, a_4, rfl, hwa_0, hwa_1, hwa_2, hwa_3, hwa_4⟩ := inv_Value hwa
    obtain ⟨a_3_0, a_3_1, a_3_2, a_3_3, rfl, hwa_3_0, hwa_3_1, hwa_3_2, hwa_3_3⟩ := inv_Dictionary hwa_3
    obtain ⟨a_3_1_0, a_3_1_1, rfl, hwa_3_1_0, hwa_3_1_1⟩ := inv_InstanceRef hwa_3_1
    refine V_seq (V_block ?_)
    repeat (first | refine VO_d ?_ | refine VQ_d ?_ | (first | refine VO_q (Q_index rfl rfl TE.h TI.h (by omega) hget) rfl ?_ | refine VQ_q (Q_index rfl rfl TE.h TI.h (by omega) hget) rfl ?_ | (refine VO_bare rfl rfl rfl rfl ?_; refine VO_q (Q_index rfl rfl TE.h TI.h (by omega) hget) rfl ?_) | refine VQ_run rfl rfl rfl rfl (Q_index rfl rfl TE.h TI.h (by omega) hget) rfl ?_) | (first | refine VO_q (Q_index_own rfl rfl .own rfl TE.h TI.h (by omega) (by omega)) rfl ?_ | refine VQ_q (Q_index_own rfl rfl .own rfl TE.h TI.h (by omega) (by omega)) rfl ?_ | (refine VO_bare rfl rfl rfl rfl ?_; refine VO_q (Q_index_own rfl rfl .own rfl TE.h TI.h (by omega) (by omega)) rfl ?_) | refine VQ_run rfl rfl rfl rfl (Q_index_own rfl rfl .own rfl TE.h TI.h (by omega) (by omega)) rfl ?_) | (first | refine VO_nil ?_ | refine VQ_nil ?_) | (first | refine V_seq_region ?_ | refine V_seq (V_seq_region ?_) | refine V_seq_draw tmix (by kernel_rfl) ?_ | refine V_seq (V_seq_draw tmix (by kernel_rfl) ?_) | refine V_region ?_ | refine V_draw tmix (by kernel_rfl) ?_))
    refine VO_callO rfl hcall (by (repeat (first | exact trivial | exact rfl | exact ⟨_, rfl⟩ | refine And.intro ?_ ?_)); first | done | fail) (by repeat constructor) (by repeat (first | exact rfl | constructor)) (by repeat constructor) rfl ?_
    repeat (first | refine VO_d ?_ | refine VQ_d ?_ | (first | refine VO_q (Q_index rfl rfl TE.h TI.h (by omega) hget) rfl ?_ | refine VQ_q (Q_index rfl rfl TE.h TI.h (by omega) hget) rfl ?_ | (refine VO_bare rfl rfl rfl rfl ?_; refine VO_q (Q_index rfl rfl TE.h TI.h (by omega) hget) rfl ?_) | refine VQ_run rfl rfl rfl rfl (Q_index rfl rfl TE.h TI.h (by omega) hget) rfl ?_) | (first | refine VO_q (Q_index_own rfl rfl .own rfl TE.h TI.h (by omega) (by omega)) rfl ?_ | refine VQ_q (Q_index_own rfl rfl .own rfl TE.h TI.h (by omega) (by omega)) rfl ?_ | (refine VO_bare rfl rfl rfl rfl ?_; refine VO_q (Q_index_own rfl rfl .own rfl TE.h TI.h (by omega) (by omega)) rfl ?_) | refine VQ_run rfl rfl rfl rfl (Q_index_own rfl rfl .own rfl TE.h TI.h (by omega) (by omega)) rfl ?_) | (first | refine VO_nil ?_ | refine VQ_nil ?_) | (first | refine V_seq_region ?_ | refine V_seq (V_seq_region ?_) | refine V_seq_draw tmix (by kernel_rfl) ?_ | refine V_seq (V_seq_draw tmix (by kernel_rfl) ?_) | refine V_region ?_ | refine V_draw tmix (by kernel_rfl) ?_))
    refine VR_store (u := .st [.i .i64 a_0, .i .i64 a_1, .s a_2, .st [.i .i64 a_3_0, .st [.i .i64 a_3_1_0, .i .i64 a_3_1_1], .sl 1 a_3_2, .sl 5 a_3_3], .sl 9 a_4]) rfl rfl (by repeat (first | exact rfl | constructor)) (by decide) TI.h rfl (by omega) (by repeat constructor) (by repeat constructor) ?_
    rw [Int.toNat_natCast, hset]
    repeat (first | refine VO_d ?_ | refine VQ_d ?_  | (first | refine VO_nil ?_ | refine VQ_nil ?_) | (first | refine V_seq_region ?_ | refine V_seq (V_seq_region ?_) | refine V_seq_draw tmix (by kernel_rfl) ?_ | refine V_seq (V_seq_draw tmix (by kernel_rfl) ?_) | refine V_region ?_ | refine V_draw tmix (by kernel_rfl) ?_))
    refine ⟨k + 1, by omega, by omega, ⟨rfl, ⟨⟨rfl, rfl⟩, ⟨rfl, rfl⟩, ⟨rfl, rfl⟩, trivial⟩, ⟨_, rfl⟩, rfl⟩⟩
  · refine V_exit ?_
    simp only [decide_eq_false_iff_not] at hc2
    have hkl : k = us.length := by omega
    subst hkl
    show V _ _ _ _ _
    repeat (first | refine VO_d ?_ | refine VQ_d ?_  | (first | refine VO_nil ?_ | refine VQ_nil ?_) | (first | refine V_seq_region ?_ | refine V_seq (V_seq_region ?_) | refine V_seq_draw tmix (by kernel_rfl) ?_ | refine V_seq (V_seq_draw tmix (by kernel_rfl) ?_) | refine V_region ?_ | refine V_draw tmix (by kernel_rfl) ?_))
    refine V_cast [.own 52 9 0 us] (by rw [fillU_all]) ?_
    refine V_ret ?_
    exact ⟨trivial, _, (by repeat (first | exact rfl | exact ResV_ag rfl rfl TI.h rfl rfl | exact ResV_one rfl rfl TI.h rfl | constructor)), by decide⟩

set_option maxHeartbeats 4000000 in
theorem toOValue_step {f0 : Int} {f1 : Int} {f2 : List UInt8} {f3 : U} {f4 : List U} (h2 : f2.length ≤ big) (g3 : wt (.st 26) f3) (h3 : PToO 43 [3, 49] f3) (h4 : PToO 44 [52] (.sl 9 f4)) : PToO 17 [3, 49, 52] (.st [.i .i64 f0, .i .i64 f1, .s f2, f3, .sl 9 f4]) := by
  intro hw
  have hW : W (.st [.i .i64 f0, .i .i64 f1, .s f2, f3, .sl 9 f4]) = 0 + (0 + (f2.length + (W f3 + (W (U.sl 9 f4) + 0)))) := rfl
  have c3 := h3 (by omega)
  clear h3
  have c4 := h4 (by omega)
  clear h4
  clear hW hw
  obtain ⟨f3_0, f3_1, f3_2, f3_3, rfl, g3_0, g3_1, g3_2, g3_3⟩ := inv_Dictionary g3
  obtain ⟨f3_1_0, f3_1_1, rfl, g3_1_0, g3_1_1⟩ := inv_InstanceRef g3_1
  refine SpecO_intro Try.func17 rfl (by kernel_rfl) rfl (by simp) fun A => ?_
  repeat (first | refine VO_d ?_ | refine VQ_d ?_  | (first | refine VO_nil ?_ | refine VQ_nil ?_) | (first | refine V_seq_region ?_ | refine V_seq (V_seq_region ?_) | refine V_seq_draw tmix (by kernel_rfl) ?_ | refine V_seq (V_seq_draw tmix (by kernel_rfl) ?_) | refine V_region ?_ | refine V_draw tmix (by kernel_rfl) ?_))
  refine VO_callO rfl c3 (by (repeat (first | exact trivial | exact rfl | exact ⟨_, rfl⟩ | refine And.intro ?_ ?_)); first | done | fail) (by repeat constructor) (by repeat (first | exact rfl | constructor)) (by repeat constructor) rfl ?_
  repeat (first | refine VO_d ?_ | refine VQ_d ?_  | (first | refine VO_nil ?_ | refine VQ_nil ?_) | (first | refine V_seq_region ?_ | refine V_seq (V_seq_region ?_) | refine V_seq_draw tmix (by kernel_rfl) ?_ | refine V_seq (V_seq_draw tmix (by kernel_rfl) ?_) | refine V_region ?_ | refine V_draw tmix (by kernel_rfl) ?_))
  refine VO_callO rfl c4 (by (repeat (first | exact trivial | exact rfl | exact ⟨_, rfl⟩ | refine And.intro ?_ ?_)); first | done | fail) (by repeat constructor) (by repeat (first | exact rfl | constructor)) (by repeat constructor) rfl ?_
  repeat (first | refine VO_d ?_ | refine VQ_d ?_  | (first | refine VO_nil ?_ | refine VQ_nil ?_) | (first | refine V_seq_region ?_ | refine V_seq (V_seq_region ?_) | refine V_seq_draw tmix (by kernel_rfl) ?_ | refine V_seq (V_seq_draw tmix (by kernel_rfl) ?_) | refine V_region ?_ | refine V_draw tmix (by kernel_rfl) ?_))
  refine V_ret ?_
  exact ⟨trivial, _, (by repeat (first | exact rfl | exact ResV_ag rfl rfl TI.h rfl rfl | exact ResV_one rfl rfl TI.h rfl | constructor)), by decide⟩

theorem toOValue_grp (u : U) : (wt (.st 27) u → PToO 17 [3, 49, 52] u) := by
  refine U.ind (M := fun u => (wt (.st 27) u → PToO 17 [3, 49, 52] u)) (fun u ih => ?_) u
  refine ?_
  · intro h
    obtain ⟨f0, f1, f2, f3, f4, rfl, p0, p1, p2, p3, p4⟩ := inv_Value h
    exact toOValue_step p2 p3 (toODictionary_all p3) (toOValueS_step p4.2 (fun a ha => (ih a (by have := nn_of_mem ha; simp only [U.nn, U.nns]; omega)) (p4.2 a ha)))
theorem toOValue_all {u : U} (h : wt (.st 27) u) : PToO 17 [3, 49, 52] u := (toOValue_grp u) h
theorem toOValueS_all {us : List U} (h : us.length ≤ big ∧ ∀ x ∈ us, wt (.st 27) x) : PToO 44 [52] (.sl 9 us) := toOValueS_step h.2 (fun a ha => toOValue_all (h.2 a ha))
end Go.Proofs.Ytjckkahiapjkfaa
