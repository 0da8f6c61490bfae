/- The contracts of the laws' own helpers that own or turn memory. Written by a program of mine (famO.py). -/
import Derived.Test.YthojhakapbfbiaaGreatFamR
import Derived.Test.YthojhakapbfbiaaGreatEng48
set_option linter.unusedVariables false
set_option linter.unusedSimpArgs false
namespace Go.Proofs.YthojhakapbfbiaaGreat
open Go Go.Eng
attribute [local irreducible] V VO VQ VY Quiet SpecP SpecO MSpec
abbrev PToO (f : Nat) (es : List TypeId) (u : U) : Prop := W u ≤ 1048576 → SpecO Tryz.prog f [.d u] es [u]
abbrev PMk (f : Nat) (u : U) : Prop := ∀ k : Int, 0 < k → k + u.lf ≤ 4611686018427387904 → MSpec Tryz.prog f u k (u.mkt k).1 (u.mkt k).2
abbrev PHe (f : Nat) (u : U) : Prop := ∀ k : Int, 0 < k → k + u.lf ≤ 4611686018427387904 → SpecP Tryz.prog f [.d (u.mkt k).1, .d (.i .i64 k)] [.i .i64 (u.mkt k).2]
theorem zt_Type : ZeroT (.st [.i .i64 0, .s [], .sl 3 []]) [.int .i64 0, .string ⟨#[]⟩, .slice none 0 0] := zeroT (by repeat constructor) (by repeat constructor)
set_option maxHeartbeats 4000000 in
theorem toOTypeS_step {us : List U} (hz : ∀ a ∈ us, wt (.st 1) a) (ih : ∀ a ∈ us, PToO 91 [84] a) : PToO 147 [84] (.sl 3 us) := by
  intro hw
  have hW : W (.sl 3 us) = us.length + Ws us := rfl
  refine SpecO_intro Tryz.func147 rfl (by kernel_rfl) rfl (by simp) fun A _ => ?_
  refine gGO ?_
  refine VR_make rfl rfl TE.h TI.h TZ.h rfl zt_Type (by omega) (by omega) (by rw [big_eq]; omega) (by omega) rfl (by repeat constructor) ?_
  rw [Int.toNat_natCast, fillU_zero]
  refine gGO ?_
  refine V_block ?_
  refine V_loop (α := Nat)
    (fun k => ⟨[(0, .d (.sl 3 us)), (3, .sl 0 0), (4, .d (.i .i64 k))], [.own 84 3 0 (fillU us (.st [.i .i64 0, .s [], .sl 3 []]) k)], Tryz.f147.ntmps⟩)
    (fun k => k ≤ us.length)
    (fun k => us.length - k) 0 ⟨rfl, ⟨⟨rfl, rfl⟩, ⟨rfl, rfl⟩, ⟨rfl, rfl⟩, trivial⟩, ⟨[], rfl⟩, rfl⟩ (by simp) ?_
  intro k hk
  refine gGO ?_
  (first | refine V_cond rfl (fun hc2 => ?_) (fun hc2 => ?_) | refine V_seq (V_cond rfl (fun hc2 => ?_) (fun hc2 => ?_)))
  · refine V_skip ?_
    simp only [decide_eq_true_eq] at hc2
    have hkl : k < us.length := by omega
    obtain ⟨a, hget⟩ : ∃ a, us[k]? = some a := ⟨_, List.getElem?_eq_getElem hkl⟩
    have hmem := List.mem_of_getElem? hget
    have hwk := W_le_of_mem hmem
    have hfl : (fillU us (.st [.i .i64 0, .s [], .sl 3 []]) k).length = us.length := fillU_length hk
    have hset := fillU_set (zu := .st [.i .i64 0, .s [], .sl 3 []]) hget
    have hcall := ih a hmem (by omega)
    have hwa := hz a hmem
    obtain ⟨a_0, a_1, a_2, rfl, hwa_0, hwa_1, hwa_2⟩ := inv_Type hwa
    refine V_seq (V_block ?_)
    repeat (first | refine gGP ?_ | refine qO (Q_index rfl rfl TE.h TI.h (by omega) hget) ?_ | refine qQ (Q_index rfl rfl TE.h TI.h (by omega) hget) ?_ | refine qO (Q_index_own rfl rfl .own rfl TE.h TI.h (by omega) (by omega)) ?_ | refine qQ (Q_index_own rfl rfl .own rfl TE.h TI.h (by omega) (by omega)) ?_)
    refine VO_callO rfl hcall vA (by repeat constructor) (by repeat (first | exact rfl | constructor)) (by repeat constructor) rfl ?_
    repeat (first | refine gGP ?_ | refine qO (Q_index rfl rfl TE.h TI.h (by omega) hget) ?_ | refine qQ (Q_index rfl rfl TE.h TI.h (by omega) hget) ?_ | refine qO (Q_index_own rfl rfl .own rfl TE.h TI.h (by omega) (by omega)) ?_ | refine qQ (Q_index_own rfl rfl .own rfl TE.h TI.h (by omega) (by omega)) ?_)
    refine VR_store (u := .st [.i .i64 a_0, .s a_1, .sl 3 a_2]) rfl rfl (by repeat (first | exact rfl | constructor)) (by decide) TI.h rfl (by omega) (by repeat constructor) (by repeat constructor) ?_
    rw [Int.toNat_natCast, hset]
    refine gGO ?_
    refine ⟨k + 1, by omega, by omega, ⟨rfl, ⟨⟨rfl, rfl⟩, ⟨rfl, rfl⟩, ⟨rfl, rfl⟩, trivial⟩, ⟨_, rfl⟩, rfl⟩⟩
  · refine V_exit ?_
    simp only [decide_eq_false_iff_not] at hc2
    have hkl : k = us.length := by omega
    subst hkl
    show V _ _ _ _ _
    refine gGO ?_
    refine V_cast [.own 84 3 0 us] (by rw [fillU_all]) ?_
    refine V_ret ?_
    exact ⟨trivial, _, (by repeat (first | exact rfl | exact ResV_ag rfl rfl TI.h rfl rfl | exact ResV_one rfl rfl TI.h rfl | constructor)), by decide⟩
set_option maxHeartbeats 4000000 in
theorem toOType_step {f0 : Int} {f1 : List UInt8} {f2 : List U} (h1 : f1.length ≤ big) (h2 : PToO 147 [84] (.sl 3 f2)) : PToO 91 [84] (.st [.i .i64 f0, .s f1, .sl 3 f2]) := by
  intro hw
  have hW : W (.st [.i .i64 f0, .s f1, .sl 3 f2]) = 0 + (f1.length + (W (U.sl 3 f2) + 0)) := rfl
  have c2 := h2 (by omega)
  clear h2
  clear hW hw
  refine SpecO_intro Tryz.func91 rfl (by kernel_rfl) rfl (by simp) fun A _ => ?_
  refine gGO ?_
  refine VO_callO rfl c2 vA (by repeat constructor) (by repeat (first | exact rfl | constructor)) (by repeat constructor) rfl ?_
  refine gGO ?_
  refine V_ret ?_
  exact ⟨trivial, _, (by repeat (first | exact rfl | exact ResV_ag rfl rfl TI.h rfl rfl | exact ResV_one rfl rfl TI.h rfl | constructor)), by decide⟩
theorem toOType_grp (u : U) : (wt (.st 1) u → PToO 91 [84] u) := by
  refine U.ind (M := fun u => (wt (.st 1) u → PToO 91 [84] u)) (fun u ih => ?_) u
  refine ?_
  · intro h
    obtain ⟨f0, f1, f2, rfl, p0, p1, p2⟩ := inv_Type h
    exact toOType_step p1 (toOTypeS_step p2.2 (fun a ha => (ih a (by have := nn_of_mem ha; simp only [U.nn, U.nns]; omega)) (p2.2 a ha)))
theorem toOType_all {u : U} (h : wt (.st 1) u) : PToO 91 [84] u := (toOType_grp u) h
theorem toOTypeS_all {us : List U} (h : us.length ≤ big ∧ ∀ x ∈ us, wt (.st 1) x) : PToO 147 [84] (.sl 3 us) := toOTypeS_step h.2 (fun a ha => toOType_all (h.2 a ha))
theorem zt_String : ZeroT (.s []) [.string ⟨#[]⟩] := zeroT (by repeat constructor) (by repeat constructor)
set_option maxHeartbeats 4000000 in
theorem toOStringS_step {us : List U} (hz : ∀ a ∈ us, wt (.str) a) : PToO 88 [9] (.sl 1 us) := by
  intro hw
  have hW : W (.sl 1 us) = us.length + Ws us := rfl
  refine SpecO_intro Tryz.func88 rfl (by kernel_rfl) rfl (by simp) fun A _ => ?_
  refine gGO ?_
  refine VR_make rfl rfl TE.h TI.h TZ.h rfl zt_String (by omega) (by omega) (by rw [big_eq]; omega) (by omega) rfl (by repeat constructor) ?_
  rw [Int.toNat_natCast, fillU_zero]
  refine gGO ?_
  refine V_block ?_
  refine V_loop (α := Nat)
    (fun k => ⟨[(0, .d (.sl 1 us)), (3, .sl 0 0), (4, .d (.i .i64 k))], [.own 9 1 0 (fillU us (.s []) k)], Tryz.f88.ntmps⟩)
    (fun k => k ≤ us.length)
    (fun k => us.length - k) 0 ⟨rfl, ⟨⟨rfl, rfl⟩, ⟨rfl, rfl⟩, ⟨rfl, rfl⟩, trivial⟩, ⟨[], rfl⟩, rfl⟩ (by simp) ?_
  intro k hk
  refine gGO ?_
  (first | refine V_cond rfl (fun hc2 => ?_) (fun hc2 => ?_) | refine V_seq (V_cond rfl (fun hc2 => ?_) (fun hc2 => ?_)))
  · refine V_skip ?_
    simp only [decide_eq_true_eq] at hc2
    have hkl : k < us.length := by omega
    obtain ⟨a, hget⟩ : ∃ a, us[k]? = some a := ⟨_, List.getElem?_eq_getElem hkl⟩
    have hmem := List.mem_of_getElem? hget
    have hwk := W_le_of_mem hmem
    have hfl : (fillU us (.s []) k).length = us.length := fillU_length hk
    have hset := fillU_set (zu := .s []) hget
    obtain ⟨n, rfl, _⟩ := inv_str (hz a hmem)
    refine V_seq (V_block ?_)
    repeat (first | refine gGP ?_ | refine qO (Q_index rfl rfl TE.h TI.h (by omega) hget) ?_ | refine qQ (Q_index rfl rfl TE.h TI.h (by omega) hget) ?_ | refine qO (Q_index_own rfl rfl .own rfl TE.h TI.h (by omega) (by omega)) ?_ | refine qQ (Q_index_own rfl rfl .own rfl TE.h TI.h (by omega) (by omega)) ?_)
    refine VR_store (u := .s n) rfl rfl (by repeat (first | exact rfl | constructor)) (by decide) TI.h rfl (by omega) (by repeat constructor) (by repeat constructor) ?_
    rw [Int.toNat_natCast, hset]
    refine gGO ?_
    refine ⟨k + 1, by omega, by omega, ⟨rfl, ⟨⟨rfl, rfl⟩, ⟨rfl, rfl⟩, ⟨rfl, rfl⟩, trivial⟩, ⟨_, rfl⟩, rfl⟩⟩
  · refine V_exit ?_
    simp only [decide_eq_false_iff_not] at hc2
    have hkl : k = us.length := by omega
    subst hkl
    show V _ _ _ _ _
    refine gGO ?_
    refine V_cast [.own 9 1 0 us] (by rw [fillU_all]) ?_
    refine V_ret ?_
    exact ⟨trivial, _, (by repeat (first | exact rfl | exact ResV_ag rfl rfl TI.h rfl rfl | exact ResV_one rfl rfl TI.h rfl | constructor)), by decide⟩
theorem toOStringS_all {us : List U} (h : us.length ≤ big ∧ ∀ x ∈ us, wt .str x) : PToO 88 [9] (.sl 1 us) := toOStringS_step h.2
theorem zt_Arm : ZeroT (.st [.s [], .sl 1 [], .st [.i .i64 0, .s [], .s [], .i .i64 0, .st [.i .i64 0, .s [], .sl 3 []], .sl 9 [], .sl 11 []]]) [.string ⟨#[]⟩, .slice none 0 0, .int .i64 0, .string ⟨#[]⟩, .string ⟨#[]⟩, .int .i64 0, .int .i64 0, .string ⟨#[]⟩, .slice none 0 0, .slice none 0 0, .slice none 0 0] := zeroT (by repeat constructor) (by repeat constructor)
set_option maxHeartbeats 4000000 in
theorem toOArmS_step {us : List U} (hz : ∀ a ∈ us, wt (.st 3) a) (ih : ∀ a ∈ us, PToO 213 [9, 84, 118, 271] a) : PToO 206 [271] (.sl 11 us) := by
  intro hw
  have hW : W (.sl 11 us) = us.length + Ws us := rfl
  refine SpecO_intro Tryz.func206 rfl (by kernel_rfl) rfl (by simp) fun A _ => ?_
  refine gGO ?_
  refine VR_make rfl rfl TE.h TI.h TZ.h rfl zt_Arm (by omega) (by omega) (by rw [big_eq]; omega) (by omega) rfl (by repeat constructor) ?_
  rw [Int.toNat_natCast, fillU_zero]
  refine gGO ?_
  refine V_block ?_
  refine V_loop (α := Nat)
    (fun k => ⟨[(0, .d (.sl 11 us)), (3, .sl 0 0), (4, .d (.i .i64 k))], [.own 271 11 0 (fillU us (.st [.s [], .sl 1 [], .st [.i .i64 0, .s [], .s [], .i .i64 0, .st [.i .i64 0, .s [], .sl 3 []], .sl 9 [], .sl 11 []]]) k)], Tryz.f206.ntmps⟩)
    (fun k => k ≤ us.length)
    (fun k => us.length - k) 0 ⟨rfl, ⟨⟨rfl, rfl⟩, ⟨rfl, rfl⟩, ⟨rfl, rfl⟩, trivial⟩, ⟨[], rfl⟩, rfl⟩ (by simp) ?_
  intro k hk
  refine gGO ?_
  (first | refine V_cond rfl (fun hc2 => ?_) (fun hc2 => ?_) | refine V_seq (V_cond rfl (fun hc2 => ?_) (fun hc2 => ?_)))
  · refine V_skip ?_
    simp only [decide_eq_true_eq] at hc2
    have hkl : k < us.length := by omega
    obtain ⟨a, hget⟩ : ∃ a, us[k]? = some a := ⟨_, List.getElem?_eq_getElem hkl⟩
    have hmem := List.mem_of_getElem? hget
    have hwk := W_le_of_mem hmem
    have hfl : (fillU us (.st [.s [], .sl 1 [], .st [.i .i64 0, .s [], .s [], .i .i64 0, .st [.i .i64 0, .s [], .sl 3 []], .sl 9 [], .sl 11 []]]) k).length = us.length := fillU_length hk
    have hset := fillU_set (zu := .st [.s [], .sl 1 [], .st [.i .i64 0, .s [], .s [], .i .i64 0, .st [.i .i64 0, .s [], .sl 3 []], .sl 9 [], .sl 11 []]]) hget
    have hcall := ih a hmem (by omega)
    have hwa := hz a hmem
    obtain ⟨a_0, a_1, a_2, rfl, hwa_0, hwa_1, hwa_2⟩ := inv_Arm hwa
    obtain ⟨a_2_0, a_2_1, a_2_2, a_2_3, a_2_4, a_2_5, a_2_6, rfl, hwa_2_0, hwa_2_1, hwa_2_2, hwa_2_3, hwa_2_4, hwa_2_5, hwa_2_6⟩ := inv_Expr hwa_2
    obtain ⟨a_2_4_0, a_2_4_1, a_2_4_2, rfl, hwa_2_4_0, hwa_2_4_1, hwa_2_4_2⟩ := inv_Type hwa_2_4
    refine V_seq (V_block ?_)
    repeat (first | refine gGP ?_ | refine qO (Q_index rfl rfl TE.h TI.h (by omega) hget) ?_ | refine qQ (Q_index rfl rfl TE.h TI.h (by omega) hget) ?_ | refine qO (Q_index_own rfl rfl .own rfl TE.h TI.h (by omega) (by omega)) ?_ | refine qQ (Q_index_own rfl rfl .own rfl TE.h TI.h (by omega) (by omega)) ?_)
    refine VO_callO rfl hcall vA (by repeat constructor) (by repeat (first | exact rfl | constructor)) (by repeat constructor) rfl ?_
    repeat (first | refine gGP ?_ | refine qO (Q_index rfl rfl TE.h TI.h (by omega) hget) ?_ | refine qQ (Q_index rfl rfl TE.h TI.h (by omega) hget) ?_ | refine qO (Q_index_own rfl rfl .own rfl TE.h TI.h (by omega) (by omega)) ?_ | refine qQ (Q_index_own rfl rfl .own rfl TE.h TI.h (by omega) (by omega)) ?_)
    refine VR_store (u := .st [.s a_0, .sl 1 a_1, .st [.i .i64 a_2_0, .s a_2_1, .s a_2_2, .i .i64 a_2_3, .st [.i .i64 a_2_4_0, .s a_2_4_1, .sl 3 a_2_4_2], .sl 9 a_2_5, .sl 11 a_2_6]]) rfl rfl (by repeat (first | exact rfl | constructor)) (by decide) TI.h rfl (by omega) (by repeat constructor) (by repeat constructor) ?_
    rw [Int.toNat_natCast, hset]
    refine gGO ?_
    refine ⟨k + 1, by omega, by omega, ⟨rfl, ⟨⟨rfl, rfl⟩, ⟨rfl, rfl⟩, ⟨rfl, rfl⟩, trivial⟩, ⟨_, rfl⟩, rfl⟩⟩
  · refine V_exit ?_
    simp only [decide_eq_false_iff_not] at hc2
    have hkl : k = us.length := by omega
    subst hkl
    show V _ _ _ _ _
    refine gGO ?_
    refine V_cast [.own 271 11 0 us] (by rw [fillU_all]) ?_
    refine V_ret ?_
    exact ⟨trivial, _, (by repeat (first | exact rfl | exact ResV_ag rfl rfl TI.h rfl rfl | exact ResV_one rfl rfl TI.h rfl | constructor)), by decide⟩
theorem zt_Expr : ZeroT (.st [.i .i64 0, .s [], .s [], .i .i64 0, .st [.i .i64 0, .s [], .sl 3 []], .sl 9 [], .sl 11 []]) [.int .i64 0, .string ⟨#[]⟩, .string ⟨#[]⟩, .int .i64 0, .int .i64 0, .string ⟨#[]⟩, .slice none 0 0, .slice none 0 0, .slice none 0 0] := zeroT (by repeat constructor) (by repeat constructor)
set_option maxHeartbeats 4000000 in
theorem toOExprS_step {us : List U} (hz : ∀ a ∈ us, wt (.st 4) a) (ih : ∀ a ∈ us, PToO 191 [84, 118, 271] a) : PToO 205 [118] (.sl 9 us) := by
  intro hw
  have hW : W (.sl 9 us) = us.length + Ws us := rfl
  refine SpecO_intro Tryz.func205 rfl (by kernel_rfl) rfl (by simp) fun A _ => ?_
  refine gGO ?_
  refine VR_make rfl rfl TE.h TI.h TZ.h rfl zt_Expr (by omega) (by omega) (by rw [big_eq]; omega) (by omega) rfl (by repeat constructor) ?_
  rw [Int.toNat_natCast, fillU_zero]
  refine gGO ?_
  refine V_block ?_
  refine V_loop (α := Nat)
    (fun k => ⟨[(0, .d (.sl 9 us)), (3, .sl 0 0), (4, .d (.i .i64 k))], [.own 118 9 0 (fillU us (.st [.i .i64 0, .s [], .s [], .i .i64 0, .st [.i .i64 0, .s [], .sl 3 []], .sl 9 [], .sl 11 []]) k)], Tryz.f205.ntmps⟩)
    (fun k => k ≤ us.length)
    (fun k => us.length - k) 0 ⟨rfl, ⟨⟨rfl, rfl⟩, ⟨rfl, rfl⟩, ⟨rfl, rfl⟩, trivial⟩, ⟨[], rfl⟩, rfl⟩ (by simp) ?_
  intro k hk
  refine gGO ?_
  (first | refine V_cond rfl (fun hc2 => ?_) (fun hc2 => ?_) | refine V_seq (V_cond rfl (fun hc2 => ?_) (fun hc2 => ?_)))
  · refine V_skip ?_
    simp only [decide_eq_true_eq] at hc2
    have hkl : k < us.length := by omega
    obtain ⟨a, hget⟩ : ∃ a, us[k]? = some a := ⟨_, List.getElem?_eq_getElem hkl⟩
    have hmem := List.mem_of_getElem? hget
    have hwk := W_le_of_mem hmem
    have hfl : (fillU us (.st [.i .i64 0, .s [], .s [], .i .i64 0, .st [.i .i64 0, .s [], .sl 3 []], .sl 9 [], .sl 11 []]) k).length = us.length := fillU_length hk
    have hset := fillU_set (zu := .st [.i .i64 0, .s [], .s [], .i .i64 0, .st [.i .i64 0, .s [], .sl 3 []], .sl 9 [], .sl 11 []]) hget
    have hcall := ih a hmem (by omega)
    have hwa := hz a hmem
    obtain ⟨a_0, a_1, a_2, a_3, a_4, a_5, a_6, rfl, hwa_0, hwa_1, hwa_2, hwa_3, hwa_4, hwa_5, hwa_6⟩ := inv_Expr hwa
    obtain ⟨a_4_0, a_4_1, a_4_2, rfl, hwa_4_0, hwa_4_1, hwa_4_2⟩ := inv_Type hwa_4
    refine V_seq (V_block ?_)
    repeat (first | refine gGP ?_ | refine qO (Q_index rfl rfl TE.h TI.h (by omega) hget) ?_ | refine qQ (Q_index rfl rfl TE.h TI.h (by omega) hget) ?_ | refine qO (Q_index_own rfl rfl .own rfl TE.h TI.h (by omega) (by omega)) ?_ | refine qQ (Q_index_own rfl rfl .own rfl TE.h TI.h (by omega) (by omega)) ?_)
    refine VO_callO rfl hcall vA (by repeat constructor) (by repeat (first | exact rfl | constructor)) (by repeat constructor) rfl ?_
    repeat (first | refine gGP ?_ | refine qO (Q_index rfl rfl TE.h TI.h (by omega) hget) ?_ | refine qQ (Q_index rfl rfl TE.h TI.h (by omega) hget) ?_ | refine qO (Q_index_own rfl rfl .own rfl TE.h TI.h (by omega) (by omega)) ?_ | refine qQ (Q_index_own rfl rfl .own rfl TE.h TI.h (by omega) (by omega)) ?_)
    refine VR_store (u := .st [.i .i64 a_0, .s a_1, .s a_2, .i .i64 a_3, .st [.i .i64 a_4_0, .s a_4_1, .sl 3 a_4_2], .sl 9 a_5, .sl 11 a_6]) rfl rfl (by repeat (first | exact rfl | constructor)) (by decide) TI.h rfl (by omega) (by repeat constructor) (by repeat constructor) ?_
    rw [Int.toNat_natCast, hset]
    refine gGO ?_
    refine ⟨k + 1, by omega, by omega, ⟨rfl, ⟨⟨rfl, rfl⟩, ⟨rfl, rfl⟩, ⟨rfl, rfl⟩, trivial⟩, ⟨_, rfl⟩, rfl⟩⟩
  · refine V_exit ?_
    simp only [decide_eq_false_iff_not] at hc2
    have hkl : k = us.length := by omega
    subst hkl
    show V _ _ _ _ _
    refine gGO ?_
    refine V_cast [.own 118 9 0 us] (by rw [fillU_all]) ?_
    refine V_ret ?_
    exact ⟨trivial, _, (by repeat (first | exact rfl | exact ResV_ag rfl rfl TI.h rfl rfl | exact ResV_one rfl rfl TI.h rfl | constructor)), by decide⟩
set_option maxHeartbeats 4000000 in
theorem toOArm_step {f0 : List UInt8} {f1 : List U} {f2 : U} (h0 : f0.length ≤ big) (h1 : PToO 88 [9] (.sl 1 f1)) (g2 : wt (.st 4) f2) (h2 : PToO 191 [84, 118, 271] f2) : PToO 213 [9, 84, 118, 271] (.st [.s f0, .sl 1 f1, f2]) := by
  intro hw
  have hW : W (.st [.s f0, .sl 1 f1, f2]) = f0.length + (W (U.sl 1 f1) + (W f2 + 0)) := rfl
  have c1 := h1 (by omega)
  clear h1
  have c2 := h2 (by omega)
  clear h2
  clear hW hw
  obtain ⟨f2_0, f2_1, f2_2, f2_3, f2_4, f2_5, f2_6, rfl, g2_0, g2_1, g2_2, g2_3, g2_4, g2_5, g2_6⟩ := inv_Expr g2
  obtain ⟨f2_4_0, f2_4_1, f2_4_2, rfl, g2_4_0, g2_4_1, g2_4_2⟩ := inv_Type g2_4
  refine SpecO_intro Tryz.func213 rfl (by kernel_rfl) rfl (by simp) fun A _ => ?_
  refine gGO ?_
  refine VO_callO rfl c1 vA (by repeat constructor) (by repeat (first | exact rfl | constructor)) (by repeat constructor) rfl ?_
  refine gGO ?_
  refine VO_callO rfl c2 vA (by repeat constructor) (by repeat (first | exact rfl | constructor)) (by repeat constructor) rfl ?_
  refine gGO ?_
  refine V_ret ?_
  exact ⟨trivial, _, (by repeat (first | exact rfl | exact ResV_ag rfl rfl TI.h rfl rfl | exact ResV_one rfl rfl TI.h rfl | constructor)), by decide⟩
set_option maxHeartbeats 4000000 in
theorem toOExpr_step {f0 : Int} {f1 : List UInt8} {f2 : List UInt8} {f3 : Int} {f4 : U} {f5 : List U} {f6 : List U} (h1 : f1.length ≤ big) (h2 : f2.length ≤ big) (g4 : wt (.st 1) f4) (h4 : PToO 91 [84] f4) (h5 : PToO 205 [118] (.sl 9 f5)) (h6 : PToO 206 [271] (.sl 11 f6)) : PToO 191 [84, 118, 271] (.st [.i .i64 f0, .s f1, .s f2, .i .i64 f3, f4, .sl 9 f5, .sl 11 f6]) := by
  intro hw
  have hW : W (.st [.i .i64 f0, .s f1, .s f2, .i .i64 f3, f4, .sl 9 f5, .sl 11 f6]) = 0 + (f1.length + (f2.length + (0 + (W f4 + (W (U.sl 9 f5) + (W (U.sl 11 f6) + 0)))))) := rfl
  have c4 := h4 (by omega)
  clear h4
  have c5 := h5 (by omega)
  clear h5
  have c6 := h6 (by omega)
  clear h6
  clear hW hw
  obtain ⟨f4_0, f4_1, f4_2, rfl, g4_0, g4_1, g4_2⟩ := inv_Type g4
  refine SpecO_intro Tryz.func191 rfl (by kernel_rfl) rfl (by simp) fun A _ => ?_
  refine gGO ?_
  refine VO_callO rfl c4 vA (by repeat constructor) (by repeat (first | exact rfl | constructor)) (by repeat constructor) rfl ?_
  refine gGO ?_
  refine VO_callO rfl c5 vA (by repeat constructor) (by repeat (first | exact rfl | constructor)) (by repeat constructor) rfl ?_
  refine gGO ?_
  refine VO_callO rfl c6 vA (by repeat constructor) (by repeat (first | exact rfl | constructor)) (by repeat constructor) rfl ?_
  refine gGO ?_
  refine V_ret ?_
  exact ⟨trivial, _, (by repeat (first | exact rfl | exact ResV_ag rfl rfl TI.h rfl rfl | exact ResV_one rfl rfl TI.h rfl | constructor)), by decide⟩
theorem toOArmExpr_grp (u : U) : (wt (.st 3) u → PToO 213 [9, 84, 118, 271] u) ∧ (wt (.st 4) u → PToO 191 [84, 118, 271] u) := by
  refine U.ind (M := fun u => (wt (.st 3) u → PToO 213 [9, 84, 118, 271] u) ∧ (wt (.st 4) u → PToO 191 [84, 118, 271] u)) (fun u ih => ?_) u
  refine ⟨?_, ?_⟩
  · intro h
    obtain ⟨f0, f1, f2, rfl, p0, p1, p2⟩ := inv_Arm h
    exact toOArm_step p0 (toOStringS_all p1) p2 ((ih f2 (by simp only [U.nn, U.nns]; omega)).2 p2)
  · intro h
    obtain ⟨f0, f1, f2, f3, f4, f5, f6, rfl, p0, p1, p2, p3, p4, p5, p6⟩ := inv_Expr h
    exact toOExpr_step p1 p2 p4 (toOType_all p4) (toOExprS_step p5.2 (fun a ha => (ih a (by have := nn_of_mem ha; simp only [U.nn, U.nns]; omega)).2 (p5.2 a ha))) (toOArmS_step p6.2 (fun a ha => (ih a (by have := nn_of_mem ha; simp only [U.nn, U.nns]; omega)).1 (p6.2 a ha)))
theorem toOExpr_all {u : U} (h : wt (.st 4) u) : PToO 191 [84, 118, 271] u := (toOArmExpr_grp u).2 h
theorem zt_Signature : ZeroT (.st [.s [], .sl 3 [], .st [.i .i64 0, .s [], .sl 3 []], .b false, .sl 1 [], .st [.i .i64 0, .s [], .s [], .i .i64 0, .st [.i .i64 0, .s [], .sl 3 []], .sl 9 [], .sl 11 []]]) [.string ⟨#[]⟩, .slice none 0 0, .int .i64 0, .string ⟨#[]⟩, .slice none 0 0, .bool false, .slice none 0 0, .int .i64 0, .string ⟨#[]⟩, .string ⟨#[]⟩, .int .i64 0, .int .i64 0, .string ⟨#[]⟩, .slice none 0 0, .slice none 0 0, .slice none 0 0] := zeroT (by repeat constructor) (by repeat constructor)
set_option maxHeartbeats 4000000 in
theorem toOSignatureS_step {us : List U} (hz : ∀ a ∈ us, wt (.st 5) a) (ih : ∀ a ∈ us, PToO 202 [84, 84, 9, 84, 118, 271] a) : PToO 188 [120] (.sl 16 us) := by
  intro hw
  have hW : W (.sl 16 us) = us.length + Ws us := rfl
  refine SpecO_intro Tryz.func188 rfl (by kernel_rfl) rfl (by simp) fun A _ => ?_
  refine gGO ?_
  refine VR_make rfl rfl TE.h TI.h TZ.h rfl zt_Signature (by omega) (by omega) (by rw [big_eq]; omega) (by omega) rfl (by repeat constructor) ?_
  rw [Int.toNat_natCast, fillU_zero]
  refine gGO ?_
  refine V_block ?_
  refine V_loop (α := Nat)
    (fun k => ⟨[(0, .d (.sl 16 us)), (3, .sl 0 0), (4, .d (.i .i64 k))], [.own 120 16 0 (fillU us (.st [.s [], .sl 3 [], .st [.i .i64 0, .s [], .sl 3 []], .b false, .sl 1 [], .st [.i .i64 0, .s [], .s [], .i .i64 0, .st [.i .i64 0, .s [], .sl 3 []], .sl 9 [], .sl 11 []]]) k)], Tryz.f188.ntmps⟩)
    (fun k => k ≤ us.length)
    (fun k => us.length - k) 0 ⟨rfl, ⟨⟨rfl, rfl⟩, ⟨rfl, rfl⟩, ⟨rfl, rfl⟩, trivial⟩, ⟨[], rfl⟩, rfl⟩ (by simp) ?_
  intro k hk
  refine gGO ?_
  (first | refine V_cond rfl (fun hc2 => ?_) (fun hc2 => ?_) | refine V_seq (V_cond rfl (fun hc2 => ?_) (fun hc2 => ?_)))
  · refine V_skip ?_
    simp only [decide_eq_true_eq] at hc2
    have hkl : k < us.length := by omega
    obtain ⟨a, hget⟩ : ∃ a, us[k]? = some a := ⟨_, List.getElem?_eq_getElem hkl⟩
    have hmem := List.mem_of_getElem? hget
    have hwk := W_le_of_mem hmem
    have hfl : (fillU us (.st [.s [], .sl 3 [], .st [.i .i64 0, .s [], .sl 3 []], .b false, .sl 1 [], .st [.i .i64 0, .s [], .s [], .i .i64 0, .st [.i .i64 0, .s [], .sl 3 []], .sl 9 [], .sl 11 []]]) k).length = us.length := fillU_length hk
    have hset := fillU_set (zu := .st [.s [], .sl 3 [], .st [.i .i64 0, .s [], .sl 3 []], .b false, .sl 1 [], .st [.i .i64 0, .s [], .s [], .i .i64 0, .st [.i .i64 0, .s [], .sl 3 []], .sl 9 [], .sl 11 []]]) hget
    have hcall := ih a hmem (by omega)
    have hwa := hz a hmem
    obtain ⟨a_0, a_1, a_2, a_3, a_4, a_5, rfl, hwa_0, hwa_1, hwa_2, hwa_4, hwa_5⟩ := inv_Signature hwa
    obtain ⟨a_2_0, a_2_1, a_2_2, rfl, hwa_2_0, hwa_2_1, hwa_2_2⟩ := inv_Type hwa_2
    obtain ⟨a_5_0, a_5_1, a_5_2, a_5_3, a_5_4, a_5_5, a_5_6, rfl, hwa_5_0, hwa_5_1, hwa_5_2, hwa_5_3, hwa_5_4, hwa_5_5, hwa_5_6⟩ := inv_Expr hwa_5
    obtain ⟨a_5_4_0, a_5_4_1, a_5_4_2, rfl, hwa_5_4_0, hwa_5_4_1, hwa_5_4_2⟩ := inv_Type hwa_5_4
    refine V_seq (V_block ?_)
    repeat (first | refine gGP ?_ | refine qO (Q_index rfl rfl TE.h TI.h (by omega) hget) ?_ | refine qQ (Q_index rfl rfl TE.h TI.h (by omega) hget) ?_ | refine qO (Q_index_own rfl rfl .own rfl TE.h TI.h (by omega) (by omega)) ?_ | refine qQ (Q_index_own rfl rfl .own rfl TE.h TI.h (by omega) (by omega)) ?_)
    refine VO_callO rfl hcall vA (by repeat constructor) (by repeat (first | exact rfl | constructor)) (by repeat constructor) rfl ?_
    repeat (first | refine gGP ?_ | refine qO (Q_index rfl rfl TE.h TI.h (by omega) hget) ?_ | refine qQ (Q_index rfl rfl TE.h TI.h (by omega) hget) ?_ | refine qO (Q_index_own rfl rfl .own rfl TE.h TI.h (by omega) (by omega)) ?_ | refine qQ (Q_index_own rfl rfl .own rfl TE.h TI.h (by omega) (by omega)) ?_)
    refine VR_store (u := .st [.s a_0, .sl 3 a_1, .st [.i .i64 a_2_0, .s a_2_1, .sl 3 a_2_2], .b a_3, .sl 1 a_4, .st [.i .i64 a_5_0, .s a_5_1, .s a_5_2, .i .i64 a_5_3, .st [.i .i64 a_5_4_0, .s a_5_4_1, .sl 3 a_5_4_2], .sl 9 a_5_5, .sl 11 a_5_6]]) rfl rfl (by repeat (first | exact rfl | constructor)) (by decide) TI.h rfl (by omega) (by repeat constructor) (by repeat constructor) ?_
    rw [Int.toNat_natCast, hset]
    refine gGO ?_
    refine ⟨k + 1, by omega, by omega, ⟨rfl, ⟨⟨rfl, rfl⟩, ⟨rfl, rfl⟩, ⟨rfl, rfl⟩, trivial⟩, ⟨_, rfl⟩, rfl⟩⟩
  · refine V_exit ?_
    simp only [decide_eq_false_iff_not] at hc2
    have hkl : k = us.length := by omega
    subst hkl
    show V _ _ _ _ _
    refine gGO ?_
    refine V_cast [.own 120 16 0 us] (by rw [fillU_all]) ?_
    refine V_ret ?_
    exact ⟨trivial, _, (by repeat (first | exact rfl | exact ResV_ag rfl rfl TI.h rfl rfl | exact ResV_one rfl rfl TI.h rfl | constructor)), by decide⟩
set_option maxHeartbeats 4000000 in
theorem toOSignature_step {f0 : List UInt8} {f1 : List U} {f2 : U} {f3 : Bool} {f4 : List U} {f5 : U} (h0 : f0.length ≤ big) (h1 : PToO 147 [84] (.sl 3 f1)) (g2 : wt (.st 1) f2) (h2 : PToO 91 [84] f2) (h4 : PToO 88 [9] (.sl 1 f4)) (g5 : wt (.st 4) f5) (h5 : PToO 191 [84, 118, 271] f5) : PToO 202 [84, 84, 9, 84, 118, 271] (.st [.s f0, .sl 3 f1, f2, .b f3, .sl 1 f4, f5]) := by
  intro hw
  have hW : W (.st [.s f0, .sl 3 f1, f2, .b f3, .sl 1 f4, f5]) = f0.length + (W (U.sl 3 f1) + (W f2 + (0 + (W (U.sl 1 f4) + (W f5 + 0))))) := rfl
  have c1 := h1 (by omega)
  clear h1
  have c2 := h2 (by omega)
  clear h2
  have c4 := h4 (by omega)
  clear h4
  have c5 := h5 (by omega)
  clear h5
  clear hW hw
  obtain ⟨f2_0, f2_1, f2_2, rfl, g2_0, g2_1, g2_2⟩ := inv_Type g2
  obtain ⟨f5_0, f5_1, f5_2, f5_3, f5_4, f5_5, f5_6, rfl, g5_0, g5_1, g5_2, g5_3, g5_4, g5_5, g5_6⟩ := inv_Expr g5
  obtain ⟨f5_4_0, f5_4_1, f5_4_2, rfl, g5_4_0, g5_4_1, g5_4_2⟩ := inv_Type g5_4
  refine SpecO_intro Tryz.func202 rfl (by kernel_rfl) rfl (by simp) fun A _ => ?_
  refine gGO ?_
  refine VO_callO rfl c1 vA (by repeat constructor) (by repeat (first | exact rfl | constructor)) (by repeat constructor) rfl ?_
  refine gGO ?_
  refine VO_callO rfl c2 vA (by repeat constructor) (by repeat (first | exact rfl | constructor)) (by repeat constructor) rfl ?_
  refine gGO ?_
  refine VO_callO rfl c4 vA (by repeat constructor) (by repeat (first | exact rfl | constructor)) (by repeat constructor) rfl ?_
  refine gGO ?_
  refine VO_callO rfl c5 vA (by repeat constructor) (by repeat (first | exact rfl | constructor)) (by repeat constructor) rfl ?_
  refine gGO ?_
  refine V_ret ?_
  exact ⟨trivial, _, (by repeat (first | exact rfl | exact ResV_ag rfl rfl TI.h rfl rfl | exact ResV_one rfl rfl TI.h rfl | constructor)), by decide⟩
theorem toOSignature_grp (u : U) : (wt (.st 5) u → PToO 202 [84, 84, 9, 84, 118, 271] u) := by
  refine U.ind (M := fun u => (wt (.st 5) u → PToO 202 [84, 84, 9, 84, 118, 271] u)) (fun u ih => ?_) u
  refine ?_
  · intro h
    obtain ⟨f0, f1, f2, f3, f4, f5, rfl, p0, p1, p2, p4, p5⟩ := inv_Signature h
    exact toOSignature_step p0 (toOTypeS_all p1) p2 (toOType_all p2) (toOStringS_all p4) p5 (toOExpr_all p5)
theorem toOSignature_all {u : U} (h : wt (.st 5) u) : PToO 202 [84, 84, 9, 84, 118, 271] u := (toOSignature_grp u) h
theorem toOSignatureS_all {us : List U} (h : us.length ≤ big ∧ ∀ x ∈ us, wt (.st 5) x) : PToO 188 [120] (.sl 16 us) := toOSignatureS_step h.2 (fun a ha => toOSignature_all (h.2 a ha))
theorem zt_Trait : ZeroT (.st [.s [], .sl 1 [], .b false, .b false, .sl 16 []]) [.string ⟨#[]⟩, .slice none 0 0, .bool false, .bool false, .slice none 0 0] := zeroT (by repeat constructor) (by repeat constructor)
set_option maxHeartbeats 4000000 in
theorem toOTraitS_step {us : List U} (hz : ∀ a ∈ us, wt (.st 6) a) (ih : ∀ a ∈ us, PToO 166 [9, 120] a) : PToO 113 [112] (.sl 5 us) := by
  intro hw
  have hW : W (.sl 5 us) = us.length + Ws us := rfl
  refine SpecO_intro Tryz.func113 rfl (by kernel_rfl) rfl (by simp) fun A _ => ?_
  refine gGO ?_
  refine VR_make rfl rfl TE.h TI.h TZ.h rfl zt_Trait (by omega) (by omega) (by rw [big_eq]; omega) (by omega) rfl (by repeat constructor) ?_
  rw [Int.toNat_natCast, fillU_zero]
  refine gGO ?_
  refine V_block ?_
  refine V_loop (α := Nat)
    (fun k => ⟨[(0, .d (.sl 5 us)), (3, .sl 0 0), (4, .d (.i .i64 k))], [.own 112 5 0 (fillU us (.st [.s [], .sl 1 [], .b false, .b false, .sl 16 []]) k)], Tryz.f113.ntmps⟩)
    (fun k => k ≤ us.length)
    (fun k => us.length - k) 0 ⟨rfl, ⟨⟨rfl, rfl⟩, ⟨rfl, rfl⟩, ⟨rfl, rfl⟩, trivial⟩, ⟨[], rfl⟩, rfl⟩ (by simp) ?_
  intro k hk
  refine gGO ?_
  (first | refine V_cond rfl (fun hc2 => ?_) (fun hc2 => ?_) | refine V_seq (V_cond rfl (fun hc2 => ?_) (fun hc2 => ?_)))
  · refine V_skip ?_
    simp only [decide_eq_true_eq] at hc2
    have hkl : k < us.length := by omega
    obtain ⟨a, hget⟩ : ∃ a, us[k]? = some a := ⟨_, List.getElem?_eq_getElem hkl⟩
    have hmem := List.mem_of_getElem? hget
    have hwk := W_le_of_mem hmem
    have hfl : (fillU us (.st [.s [], .sl 1 [], .b false, .b false, .sl 16 []]) k).length = us.length := fillU_length hk
    have hset := fillU_set (zu := .st [.s [], .sl 1 [], .b false, .b false, .sl 16 []]) hget
    have hcall := ih a hmem (by omega)
    have hwa := hz a hmem
    obtain ⟨a_0, a_1, a_2, a_3, a_4, rfl, hwa_0, hwa_1, hwa_4⟩ := inv_Trait hwa
    refine V_seq (V_block ?_)
    repeat (first | refine gGP ?_ | refine qO (Q_index rfl rfl TE.h TI.h (by omega) hget) ?_ | refine qQ (Q_index rfl rfl TE.h TI.h (by omega) hget) ?_ | refine qO (Q_index_own rfl rfl .own rfl TE.h TI.h (by omega) (by omega)) ?_ | refine qQ (Q_index_own rfl rfl .own rfl TE.h TI.h (by omega) (by omega)) ?_)
    refine VO_callO rfl hcall vA (by repeat constructor) (by repeat (first | exact rfl | constructor)) (by repeat constructor) rfl ?_
    repeat (first | refine gGP ?_ | refine qO (Q_index rfl rfl TE.h TI.h (by omega) hget) ?_ | refine qQ (Q_index rfl rfl TE.h TI.h (by omega) hget) ?_ | refine qO (Q_index_own rfl rfl .own rfl TE.h TI.h (by omega) (by omega)) ?_ | refine qQ (Q_index_own rfl rfl .own rfl TE.h TI.h (by omega) (by omega)) ?_)
    refine VR_store (u := .st [.s a_0, .sl 1 a_1, .b a_2, .b a_3, .sl 16 a_4]) rfl rfl (by repeat (first | exact rfl | constructor)) (by decide) TI.h rfl (by omega) (by repeat constructor) (by repeat constructor) ?_
    rw [Int.toNat_natCast, hset]
    refine gGO ?_
    refine ⟨k + 1, by omega, by omega, ⟨rfl, ⟨⟨rfl, rfl⟩, ⟨rfl, rfl⟩, ⟨rfl, rfl⟩, trivial⟩, ⟨_, rfl⟩, rfl⟩⟩
  · refine V_exit ?_
    simp only [decide_eq_false_iff_not] at hc2
    have hkl : k = us.length := by omega
    subst hkl
    show V _ _ _ _ _
    refine gGO ?_
    refine V_cast [.own 112 5 0 us] (by rw [fillU_all]) ?_
    refine V_ret ?_
    exact ⟨trivial, _, (by repeat (first | exact rfl | exact ResV_ag rfl rfl TI.h rfl rfl | exact ResV_one rfl rfl TI.h rfl | constructor)), by decide⟩
set_option maxHeartbeats 4000000 in
theorem toOTrait_step {f0 : List UInt8} {f1 : List U} {f2 : Bool} {f3 : Bool} {f4 : List U} (h0 : f0.length ≤ big) (h1 : PToO 88 [9] (.sl 1 f1)) (h4 : PToO 188 [120] (.sl 16 f4)) : PToO 166 [9, 120] (.st [.s f0, .sl 1 f1, .b f2, .b f3, .sl 16 f4]) := by
  intro hw
  have hW : W (.st [.s f0, .sl 1 f1, .b f2, .b f3, .sl 16 f4]) = f0.length + (W (U.sl 1 f1) + (0 + (0 + (W (U.sl 16 f4) + 0)))) := rfl
  have c1 := h1 (by omega)
  clear h1
  have c4 := h4 (by omega)
  clear h4
  clear hW hw
  refine SpecO_intro Tryz.func166 rfl (by kernel_rfl) rfl (by simp) fun A _ => ?_
  refine gGO ?_
  refine VO_callO rfl c1 vA (by repeat constructor) (by repeat (first | exact rfl | constructor)) (by repeat constructor) rfl ?_
  refine gGO ?_
  refine VO_callO rfl c4 vA (by repeat constructor) (by repeat (first | exact rfl | constructor)) (by repeat constructor) rfl ?_
  refine gGO ?_
  refine V_ret ?_
  exact ⟨trivial, _, (by repeat (first | exact rfl | exact ResV_ag rfl rfl TI.h rfl rfl | exact ResV_one rfl rfl TI.h rfl | constructor)), by decide⟩
theorem toOTrait_grp (u : U) : (wt (.st 6) u → PToO 166 [9, 120] u) := by
  refine U.ind (M := fun u => (wt (.st 6) u → PToO 166 [9, 120] u)) (fun u ih => ?_) u
  refine ?_
  · intro h
    obtain ⟨f0, f1, f2, f3, f4, rfl, p0, p1, p4⟩ := inv_Trait h
    exact toOTrait_step p0 (toOStringS_all p1) (toOSignatureS_all p4)
theorem toOTrait_all {u : U} (h : wt (.st 6) u) : PToO 166 [9, 120] u := (toOTrait_grp u) h
theorem toOTraitS_all {us : List U} (h : us.length ≤ big ∧ ∀ x ∈ us, wt (.st 6) x) : PToO 113 [112] (.sl 5 us) := toOTraitS_step h.2 (fun a ha => toOTrait_all (h.2 a ha))
theorem zt_Constructor : ZeroT (.st [.s [], .sl 3 []]) [.string ⟨#[]⟩, .slice none 0 0] := zeroT (by repeat constructor) (by repeat constructor)
set_option maxHeartbeats 4000000 in
theorem toOConstructorS_step {us : List U} (hz : ∀ a ∈ us, wt (.st 7) a) (ih : ∀ a ∈ us, PToO 203 [84] a) : PToO 189 [257] (.sl 2 us) := by
  intro hw
  have hW : W (.sl 2 us) = us.length + Ws us := rfl
  refine SpecO_intro Tryz.func189 rfl (by kernel_rfl) rfl (by simp) fun A _ => ?_
  refine gGO ?_
  refine VR_make rfl rfl TE.h TI.h TZ.h rfl zt_Constructor (by omega) (by omega) (by rw [big_eq]; omega) (by omega) rfl (by repeat constructor) ?_
  rw [Int.toNat_natCast, fillU_zero]
  refine gGO ?_
  refine V_block ?_
  refine V_loop (α := Nat)
    (fun k => ⟨[(0, .d (.sl 2 us)), (3, .sl 0 0), (4, .d (.i .i64 k))], [.own 257 2 0 (fillU us (.st [.s [], .sl 3 []]) k)], Tryz.f189.ntmps⟩)
    (fun k => k ≤ us.length)
    (fun k => us.length - k) 0 ⟨rfl, ⟨⟨rfl, rfl⟩, ⟨rfl, rfl⟩, ⟨rfl, rfl⟩, trivial⟩, ⟨[], rfl⟩, rfl⟩ (by simp) ?_
  intro k hk
  refine gGO ?_
  (first | refine V_cond rfl (fun hc2 => ?_) (fun hc2 => ?_) | refine V_seq (V_cond rfl (fun hc2 => ?_) (fun hc2 => ?_)))
  · refine V_skip ?_
    simp only [decide_eq_true_eq] at hc2
    have hkl : k < us.length := by omega
    obtain ⟨a, hget⟩ : ∃ a, us[k]? = some a := ⟨_, List.getElem?_eq_getElem hkl⟩
    have hmem := List.mem_of_getElem? hget
    have hwk := W_le_of_mem hmem
    have hfl : (fillU us (.st [.s [], .sl 3 []]) k).length = us.length := fillU_length hk
    have hset := fillU_set (zu := .st [.s [], .sl 3 []]) hget
    have hcall := ih a hmem (by omega)
    have hwa := hz a hmem
    obtain ⟨a_0, a_1, rfl, hwa_0, hwa_1⟩ := inv_Constructor hwa
    refine V_seq (V_block ?_)
    repeat (first | refine gGP ?_ | refine qO (Q_index rfl rfl TE.h TI.h (by omega) hget) ?_ | refine qQ (Q_index rfl rfl TE.h TI.h (by omega) hget) ?_ | refine qO (Q_index_own rfl rfl .own rfl TE.h TI.h (by omega) (by omega)) ?_ | refine qQ (Q_index_own rfl rfl .own rfl TE.h TI.h (by omega) (by omega)) ?_)
    refine VO_callO rfl hcall vA (by repeat constructor) (by repeat (first | exact rfl | constructor)) (by repeat constructor) rfl ?_
    repeat (first | refine gGP ?_ | refine qO (Q_index rfl rfl TE.h TI.h (by omega) hget) ?_ | refine qQ (Q_index rfl rfl TE.h TI.h (by omega) hget) ?_ | refine qO (Q_index_own rfl rfl .own rfl TE.h TI.h (by omega) (by omega)) ?_ | refine qQ (Q_index_own rfl rfl .own rfl TE.h TI.h (by omega) (by omega)) ?_)
    refine VR_store (u := .st [.s a_0, .sl 3 a_1]) rfl rfl (by repeat (first | exact rfl | constructor)) (by decide) TI.h rfl (by omega) (by repeat constructor) (by repeat constructor) ?_
    rw [Int.toNat_natCast, hset]
    refine gGO ?_
    refine ⟨k + 1, by omega, by omega, ⟨rfl, ⟨⟨rfl, rfl⟩, ⟨rfl, rfl⟩, ⟨rfl, rfl⟩, trivial⟩, ⟨_, rfl⟩, rfl⟩⟩
  · refine V_exit ?_
    simp only [decide_eq_false_iff_not] at hc2
    have hkl : k = us.length := by omega
    subst hkl
    show V _ _ _ _ _
    refine gGO ?_
    refine V_cast [.own 257 2 0 us] (by rw [fillU_all]) ?_
    refine V_ret ?_
    exact ⟨trivial, _, (by repeat (first | exact rfl | exact ResV_ag rfl rfl TI.h rfl rfl | exact ResV_one rfl rfl TI.h rfl | constructor)), by decide⟩
set_option maxHeartbeats 4000000 in
theorem toOConstructor_step {f0 : List UInt8} {f1 : List U} (h0 : f0.length ≤ big) (h1 : PToO 147 [84] (.sl 3 f1)) : PToO 203 [84] (.st [.s f0, .sl 3 f1]) := by
  intro hw
  have hW : W (.st [.s f0, .sl 3 f1]) = f0.length + (W (U.sl 3 f1) + 0) := rfl
  have c1 := h1 (by omega)
  clear h1
  clear hW hw
  refine SpecO_intro Tryz.func203 rfl (by kernel_rfl) rfl (by simp) fun A _ => ?_
  refine gGO ?_
  refine VO_callO rfl c1 vA (by repeat constructor) (by repeat (first | exact rfl | constructor)) (by repeat constructor) rfl ?_
  refine gGO ?_
  refine V_ret ?_
  exact ⟨trivial, _, (by repeat (first | exact rfl | exact ResV_ag rfl rfl TI.h rfl rfl | exact ResV_one rfl rfl TI.h rfl | constructor)), by decide⟩
theorem toOConstructor_grp (u : U) : (wt (.st 7) u → PToO 203 [84] u) := by
  refine U.ind (M := fun u => (wt (.st 7) u → PToO 203 [84] u)) (fun u ih => ?_) u
  refine ?_
  · intro h
    obtain ⟨f0, f1, rfl, p0, p1⟩ := inv_Constructor h
    exact toOConstructor_step p0 (toOTypeS_all p1)
theorem toOConstructor_all {u : U} (h : wt (.st 7) u) : PToO 203 [84] u := (toOConstructor_grp u) h
theorem toOConstructorS_all {us : List U} (h : us.length ≤ big ∧ ∀ x ∈ us, wt (.st 7) x) : PToO 189 [257] (.sl 2 us) := toOConstructorS_step h.2 (fun a ha => toOConstructor_all (h.2 a ha))
theorem zt_DataType : ZeroT (.st [.s [], .sl 1 [], .sl 2 []]) [.string ⟨#[]⟩, .slice none 0 0, .slice none 0 0] := zeroT (by repeat constructor) (by repeat constructor)
set_option maxHeartbeats 4000000 in
theorem toODataTypeS_step {us : List U} (hz : ∀ a ∈ us, wt (.st 8) a) (ih : ∀ a ∈ us, PToO 167 [9, 257] a) : PToO 114 [195] (.sl 3 us) := by
  intro hw
  have hW : W (.sl 3 us) = us.length + Ws us := rfl
  refine SpecO_intro Tryz.func114 rfl (by kernel_rfl) rfl (by simp) fun A _ => ?_
  refine gGO ?_
  refine VR_make rfl rfl TE.h TI.h TZ.h rfl zt_DataType (by omega) (by omega) (by rw [big_eq]; omega) (by omega) rfl (by repeat constructor) ?_
  rw [Int.toNat_natCast, fillU_zero]
  refine gGO ?_
  refine V_block ?_
  refine V_loop (α := Nat)
    (fun k => ⟨[(0, .d (.sl 3 us)), (3, .sl 0 0), (4, .d (.i .i64 k))], [.own 195 3 0 (fillU us (.st [.s [], .sl 1 [], .sl 2 []]) k)], Tryz.f114.ntmps⟩)
    (fun k => k ≤ us.length)
    (fun k => us.length - k) 0 ⟨rfl, ⟨⟨rfl, rfl⟩, ⟨rfl, rfl⟩, ⟨rfl, rfl⟩, trivial⟩, ⟨[], rfl⟩, rfl⟩ (by simp) ?_
  intro k hk
  refine gGO ?_
  (first | refine V_cond rfl (fun hc2 => ?_) (fun hc2 => ?_) | refine V_seq (V_cond rfl (fun hc2 => ?_) (fun hc2 => ?_)))
  · refine V_skip ?_
    simp only [decide_eq_true_eq] at hc2
    have hkl : k < us.length := by omega
    obtain ⟨a, hget⟩ : ∃ a, us[k]? = some a := ⟨_, List.getElem?_eq_getElem hkl⟩
    have hmem := List.mem_of_getElem? hget
    have hwk := W_le_of_mem hmem
    have hfl : (fillU us (.st [.s [], .sl 1 [], .sl 2 []]) k).length = us.length := fillU_length hk
    have hset := fillU_set (zu := .st [.s [], .sl 1 [], .sl 2 []]) hget
    have hcall := ih a hmem (by omega)
    have hwa := hz a hmem
    obtain ⟨a_0, a_1, a_2, rfl, hwa_0, hwa_1, hwa_2⟩ := inv_DataType hwa
    refine V_seq (V_block ?_)
    repeat (first | refine gGP ?_ | refine qO (Q_index rfl rfl TE.h TI.h (by omega) hget) ?_ | refine qQ (Q_index rfl rfl TE.h TI.h (by omega) hget) ?_ | refine qO (Q_index_own rfl rfl .own rfl TE.h TI.h (by omega) (by omega)) ?_ | refine qQ (Q_index_own rfl rfl .own rfl TE.h TI.h (by omega) (by omega)) ?_)
    refine VO_callO rfl hcall vA (by repeat constructor) (by repeat (first | exact rfl | constructor)) (by repeat constructor) rfl ?_
    repeat (first | refine gGP ?_ | refine qO (Q_index rfl rfl TE.h TI.h (by omega) hget) ?_ | refine qQ (Q_index rfl rfl TE.h TI.h (by omega) hget) ?_ | refine qO (Q_index_own rfl rfl .own rfl TE.h TI.h (by omega) (by omega)) ?_ | refine qQ (Q_index_own rfl rfl .own rfl TE.h TI.h (by omega) (by omega)) ?_)
    refine VR_store (u := .st [.s a_0, .sl 1 a_1, .sl 2 a_2]) rfl rfl (by repeat (first | exact rfl | constructor)) (by decide) TI.h rfl (by omega) (by repeat constructor) (by repeat constructor) ?_
    rw [Int.toNat_natCast, hset]
    refine gGO ?_
    refine ⟨k + 1, by omega, by omega, ⟨rfl, ⟨⟨rfl, rfl⟩, ⟨rfl, rfl⟩, ⟨rfl, rfl⟩, trivial⟩, ⟨_, rfl⟩, rfl⟩⟩
  · refine V_exit ?_
    simp only [decide_eq_false_iff_not] at hc2
    have hkl : k = us.length := by omega
    subst hkl
    show V _ _ _ _ _
    refine gGO ?_
    refine V_cast [.own 195 3 0 us] (by rw [fillU_all]) ?_
    refine V_ret ?_
    exact ⟨trivial, _, (by repeat (first | exact rfl | exact ResV_ag rfl rfl TI.h rfl rfl | exact ResV_one rfl rfl TI.h rfl | constructor)), by decide⟩
set_option maxHeartbeats 4000000 in
theorem toODataType_step {f0 : List UInt8} {f1 : List U} {f2 : List U} (h0 : f0.length ≤ big) (h1 : PToO 88 [9] (.sl 1 f1)) (h2 : PToO 189 [257] (.sl 2 f2)) : PToO 167 [9, 257] (.st [.s f0, .sl 1 f1, .sl 2 f2]) := by
  intro hw
  have hW : W (.st [.s f0, .sl 1 f1, .sl 2 f2]) = f0.length + (W (U.sl 1 f1) + (W (U.sl 2 f2) + 0)) := rfl
  have c1 := h1 (by omega)
  clear h1
  have c2 := h2 (by omega)
  clear h2
  clear hW hw
  refine SpecO_intro Tryz.func167 rfl (by kernel_rfl) rfl (by simp) fun A _ => ?_
  refine gGO ?_
  refine VO_callO rfl c1 vA (by repeat constructor) (by repeat (first | exact rfl | constructor)) (by repeat constructor) rfl ?_
  refine gGO ?_
  refine VO_callO rfl c2 vA (by repeat constructor) (by repeat (first | exact rfl | constructor)) (by repeat constructor) rfl ?_
  refine gGO ?_
  refine V_ret ?_
  exact ⟨trivial, _, (by repeat (first | exact rfl | exact ResV_ag rfl rfl TI.h rfl rfl | exact ResV_one rfl rfl TI.h rfl | constructor)), by decide⟩
theorem toODataType_grp (u : U) : (wt (.st 8) u → PToO 167 [9, 257] u) := by
  refine U.ind (M := fun u => (wt (.st 8) u → PToO 167 [9, 257] u)) (fun u ih => ?_) u
  refine ?_
  · intro h
    obtain ⟨f0, f1, f2, rfl, p0, p1, p2⟩ := inv_DataType h
    exact toODataType_step p0 (toOStringS_all p1) (toOConstructorS_all p2)
theorem toODataType_all {u : U} (h : wt (.st 8) u) : PToO 167 [9, 257] u := (toODataType_grp u) h
theorem toODataTypeS_all {us : List U} (h : us.length ≤ big ∧ ∀ x ∈ us, wt (.st 8) x) : PToO 114 [195] (.sl 3 us) := toODataTypeS_step h.2 (fun a ha => toODataType_all (h.2 a ha))
theorem zt_Bound : ZeroT (.st [.s [], .st [.i .i64 0, .s [], .sl 3 []]]) [.string ⟨#[]⟩, .int .i64 0, .string ⟨#[]⟩, .slice none 0 0] := zeroT (by repeat constructor) (by repeat constructor)
set_option maxHeartbeats 4000000 in
theorem toOBoundS_step {us : List U} (hz : ∀ a ∈ us, wt (.st 9) a) (ih : ∀ a ∈ us, PToO 145 [84] a) : PToO 89 [180] (.sl 4 us) := by
  intro hw
  have hW : W (.sl 4 us) = us.length + Ws us := rfl
  refine SpecO_intro Tryz.func89 rfl (by kernel_rfl) rfl (by simp) fun A _ => ?_
  refine gGO ?_
  refine VR_make rfl rfl TE.h TI.h TZ.h rfl zt_Bound (by omega) (by omega) (by rw [big_eq]; omega) (by omega) rfl (by repeat constructor) ?_
  rw [Int.toNat_natCast, fillU_zero]
  refine gGO ?_
  refine V_block ?_
  refine V_loop (α := Nat)
    (fun k => ⟨[(0, .d (.sl 4 us)), (3, .sl 0 0), (4, .d (.i .i64 k))], [.own 180 4 0 (fillU us (.st [.s [], .st [.i .i64 0, .s [], .sl 3 []]]) k)], Tryz.f89.ntmps⟩)
    (fun k => k ≤ us.length)
    (fun k => us.length - k) 0 ⟨rfl, ⟨⟨rfl, rfl⟩, ⟨rfl, rfl⟩, ⟨rfl, rfl⟩, trivial⟩, ⟨[], rfl⟩, rfl⟩ (by simp) ?_
  intro k hk
  refine gGO ?_
  (first | refine V_cond rfl (fun hc2 => ?_) (fun hc2 => ?_) | refine V_seq (V_cond rfl (fun hc2 => ?_) (fun hc2 => ?_)))
  · refine V_skip ?_
    simp only [decide_eq_true_eq] at hc2
    have hkl : k < us.length := by omega
    obtain ⟨a, hget⟩ : ∃ a, us[k]? = some a := ⟨_, List.getElem?_eq_getElem hkl⟩
    have hmem := List.mem_of_getElem? hget
    have hwk := W_le_of_mem hmem
    have hfl : (fillU us (.st [.s [], .st [.i .i64 0, .s [], .sl 3 []]]) k).length = us.length := fillU_length hk
    have hset := fillU_set (zu := .st [.s [], .st [.i .i64 0, .s [], .sl 3 []]]) hget
    have hcall := ih a hmem (by omega)
    have hwa := hz a hmem
    obtain ⟨a_0, a_1, rfl, hwa_0, hwa_1⟩ := inv_Bound hwa
    obtain ⟨a_1_0, a_1_1, a_1_2, rfl, hwa_1_0, hwa_1_1, hwa_1_2⟩ := inv_Type hwa_1
    refine V_seq (V_block ?_)
    repeat (first | refine gGP ?_ | refine qO (Q_index rfl rfl TE.h TI.h (by omega) hget) ?_ | refine qQ (Q_index rfl rfl TE.h TI.h (by omega) hget) ?_ | refine qO (Q_index_own rfl rfl .own rfl TE.h TI.h (by omega) (by omega)) ?_ | refine qQ (Q_index_own rfl rfl .own rfl TE.h TI.h (by omega) (by omega)) ?_)
    refine VO_callO rfl hcall vA (by repeat constructor) (by repeat (first | exact rfl | constructor)) (by repeat constructor) rfl ?_
    repeat (first | refine gGP ?_ | refine qO (Q_index rfl rfl TE.h TI.h (by omega) hget) ?_ | refine qQ (Q_index rfl rfl TE.h TI.h (by omega) hget) ?_ | refine qO (Q_index_own rfl rfl .own rfl TE.h TI.h (by omega) (by omega)) ?_ | refine qQ (Q_index_own rfl rfl .own rfl TE.h TI.h (by omega) (by omega)) ?_)
    refine VR_store (u := .st [.s a_0, .st [.i .i64 a_1_0, .s a_1_1, .sl 3 a_1_2]]) rfl rfl (by repeat (first | exact rfl | constructor)) (by decide) TI.h rfl (by omega) (by repeat constructor) (by repeat constructor) ?_
    rw [Int.toNat_natCast, hset]
    refine gGO ?_
    refine ⟨k + 1, by omega, by omega, ⟨rfl, ⟨⟨rfl, rfl⟩, ⟨rfl, rfl⟩, ⟨rfl, rfl⟩, trivial⟩, ⟨_, rfl⟩, rfl⟩⟩
  · refine V_exit ?_
    simp only [decide_eq_false_iff_not] at hc2
    have hkl : k = us.length := by omega
    subst hkl
    show V _ _ _ _ _
    refine gGO ?_
    refine V_cast [.own 180 4 0 us] (by rw [fillU_all]) ?_
    refine V_ret ?_
    exact ⟨trivial, _, (by repeat (first | exact rfl | exact ResV_ag rfl rfl TI.h rfl rfl | exact ResV_one rfl rfl TI.h rfl | constructor)), by decide⟩
set_option maxHeartbeats 4000000 in
theorem toOBound_step {f0 : List UInt8} {f1 : U} (h0 : f0.length ≤ big) (g1 : wt (.st 1) f1) (h1 : PToO 91 [84] f1) : PToO 145 [84] (.st [.s f0, f1]) := by
  intro hw
  have hW : W (.st [.s f0, f1]) = f0.length + (W f1 + 0) := rfl
  have c1 := h1 (by omega)
  clear h1
  clear hW hw
  obtain ⟨f1_0, f1_1, f1_2, rfl, g1_0, g1_1, g1_2⟩ := inv_Type g1
  refine SpecO_intro Tryz.func145 rfl (by kernel_rfl) rfl (by simp) fun A _ => ?_
  refine gGO ?_
  refine VO_callO rfl c1 vA (by repeat constructor) (by repeat (first | exact rfl | constructor)) (by repeat constructor) rfl ?_
  refine gGO ?_
  refine V_ret ?_
  exact ⟨trivial, _, (by repeat (first | exact rfl | exact ResV_ag rfl rfl TI.h rfl rfl | exact ResV_one rfl rfl TI.h rfl | constructor)), by decide⟩
theorem toOBound_grp (u : U) : (wt (.st 9) u → PToO 145 [84] u) := by
  refine U.ind (M := fun u => (wt (.st 9) u → PToO 145 [84] u)) (fun u ih => ?_) u
  refine ?_
  · intro h
    obtain ⟨f0, f1, rfl, p0, p1⟩ := inv_Bound h
    exact toOBound_step p0 p1 (toOType_all p1)
theorem toOBound_all {u : U} (h : wt (.st 9) u) : PToO 145 [84] u := (toOBound_grp u) h
theorem toOBoundS_all {us : List U} (h : us.length ≤ big ∧ ∀ x ∈ us, wt (.st 9) x) : PToO 89 [180] (.sl 4 us) := toOBoundS_step h.2 (fun a ha => toOBound_all (h.2 a ha))
theorem zt_Method : ZeroT (.st [.s [], .sl 1 [], .st [.i .i64 0, .s [], .s [], .i .i64 0, .st [.i .i64 0, .s [], .sl 3 []], .sl 9 [], .sl 11 []]]) [.string ⟨#[]⟩, .slice none 0 0, .int .i64 0, .string ⟨#[]⟩, .string ⟨#[]⟩, .int .i64 0, .int .i64 0, .string ⟨#[]⟩, .slice none 0 0, .slice none 0 0, .slice none 0 0] := zeroT (by repeat constructor) (by repeat constructor)
set_option maxHeartbeats 4000000 in
theorem toOMethodS_step {us : List U} (hz : ∀ a ∈ us, wt (.st 10) a) (ih : ∀ a ∈ us, PToO 204 [9, 84, 118, 271] a) : PToO 190 [160] (.sl 11 us) := by
  intro hw
  have hW : W (.sl 11 us) = us.length + Ws us := rfl
  refine SpecO_intro Tryz.func190 rfl (by kernel_rfl) rfl (by simp) fun A _ => ?_
  refine gGO ?_
  refine VR_make rfl rfl TE.h TI.h TZ.h rfl zt_Method (by omega) (by omega) (by rw [big_eq]; omega) (by omega) rfl (by repeat constructor) ?_
  rw [Int.toNat_natCast, fillU_zero]
  refine gGO ?_
  refine V_block ?_
  refine V_loop (α := Nat)
    (fun k => ⟨[(0, .d (.sl 11 us)), (3, .sl 0 0), (4, .d (.i .i64 k))], [.own 160 11 0 (fillU us (.st [.s [], .sl 1 [], .st [.i .i64 0, .s [], .s [], .i .i64 0, .st [.i .i64 0, .s [], .sl 3 []], .sl 9 [], .sl 11 []]]) k)], Tryz.f190.ntmps⟩)
    (fun k => k ≤ us.length)
    (fun k => us.length - k) 0 ⟨rfl, ⟨⟨rfl, rfl⟩, ⟨rfl, rfl⟩, ⟨rfl, rfl⟩, trivial⟩, ⟨[], rfl⟩, rfl⟩ (by simp) ?_
  intro k hk
  refine gGO ?_
  (first | refine V_cond rfl (fun hc2 => ?_) (fun hc2 => ?_) | refine V_seq (V_cond rfl (fun hc2 => ?_) (fun hc2 => ?_)))
  · refine V_skip ?_
    simp only [decide_eq_true_eq] at hc2
    have hkl : k < us.length := by omega
    obtain ⟨a, hget⟩ : ∃ a, us[k]? = some a := ⟨_, List.getElem?_eq_getElem hkl⟩
    have hmem := List.mem_of_getElem? hget
    have hwk := W_le_of_mem hmem
    have hfl : (fillU us (.st [.s [], .sl 1 [], .st [.i .i64 0, .s [], .s [], .i .i64 0, .st [.i .i64 0, .s [], .sl 3 []], .sl 9 [], .sl 11 []]]) k).length = us.length := fillU_length hk
    have hset := fillU_set (zu := .st [.s [], .sl 1 [], .st [.i .i64 0, .s [], .s [], .i .i64 0, .st [.i .i64 0, .s [], .sl 3 []], .sl 9 [], .sl 11 []]]) hget
    have hcall := ih a hmem (by omega)
    have hwa := hz a hmem
    obtain ⟨a_0, a_1, a_2, rfl, hwa_0, hwa_1, hwa_2⟩ := inv_Method hwa
    obtain ⟨a_2_0, a_2_1, a_2_2, a_2_3, a_2_4, a_2_5, a_2_6, rfl, hwa_2_0, hwa_2_1, hwa_2_2, hwa_2_3, hwa_2_4, hwa_2_5, hwa_2_6⟩ := inv_Expr hwa_2
    obtain ⟨a_2_4_0, a_2_4_1, a_2_4_2, rfl, hwa_2_4_0, hwa_2_4_1, hwa_2_4_2⟩ := inv_Type hwa_2_4
    refine V_seq (V_block ?_)
    repeat (first | refine gGP ?_ | refine qO (Q_index rfl rfl TE.h TI.h (by omega) hget) ?_ | refine qQ (Q_index rfl rfl TE.h TI.h (by omega) hget) ?_ | refine qO (Q_index_own rfl rfl .own rfl TE.h TI.h (by omega) (by omega)) ?_ | refine qQ (Q_index_own rfl rfl .own rfl TE.h TI.h (by omega) (by omega)) ?_)
    refine VO_callO rfl hcall vA (by repeat constructor) (by repeat (first | exact rfl | constructor)) (by repeat constructor) rfl ?_
    repeat (first | refine gGP ?_ | refine qO (Q_index rfl rfl TE.h TI.h (by omega) hget) ?_ | refine qQ (Q_index rfl rfl TE.h TI.h (by omega) hget) ?_ | refine qO (Q_index_own rfl rfl .own rfl TE.h TI.h (by omega) (by omega)) ?_ | refine qQ (Q_index_own rfl rfl .own rfl TE.h TI.h (by omega) (by omega)) ?_)
    refine VR_store (u := .st [.s a_0, .sl 1 a_1, .st [.i .i64 a_2_0, .s a_2_1, .s a_2_2, .i .i64 a_2_3, .st [.i .i64 a_2_4_0, .s a_2_4_1, .sl 3 a_2_4_2], .sl 9 a_2_5, .sl 11 a_2_6]]) rfl rfl (by repeat (first | exact rfl | constructor)) (by decide) TI.h rfl (by omega) (by repeat constructor) (by repeat constructor) ?_
    rw [Int.toNat_natCast, hset]
    refine gGO ?_
    refine ⟨k + 1, by omega, by omega, ⟨rfl, ⟨⟨rfl, rfl⟩, ⟨rfl, rfl⟩, ⟨rfl, rfl⟩, trivial⟩, ⟨_, rfl⟩, rfl⟩⟩
  · refine V_exit ?_
    simp only [decide_eq_false_iff_not] at hc2
    have hkl : k = us.length := by omega
    subst hkl
    show V _ _ _ _ _
    refine gGO ?_
    refine V_cast [.own 160 11 0 us] (by rw [fillU_all]) ?_
    refine V_ret ?_
    exact ⟨trivial, _, (by repeat (first | exact rfl | exact ResV_ag rfl rfl TI.h rfl rfl | exact ResV_one rfl rfl TI.h rfl | constructor)), by decide⟩
set_option maxHeartbeats 4000000 in
theorem toOMethod_step {f0 : List UInt8} {f1 : List U} {f2 : U} (h0 : f0.length ≤ big) (h1 : PToO 88 [9] (.sl 1 f1)) (g2 : wt (.st 4) f2) (h2 : PToO 191 [84, 118, 271] f2) : PToO 204 [9, 84, 118, 271] (.st [.s f0, .sl 1 f1, f2]) := by
  intro hw
  have hW : W (.st [.s f0, .sl 1 f1, f2]) = f0.length + (W (U.sl 1 f1) + (W f2 + 0)) := rfl
  have c1 := h1 (by omega)
  clear h1
  have c2 := h2 (by omega)
  clear h2
  clear hW hw
  obtain ⟨f2_0, f2_1, f2_2, f2_3, f2_4, f2_5, f2_6, rfl, g2_0, g2_1, g2_2, g2_3, g2_4, g2_5, g2_6⟩ := inv_Expr g2
  obtain ⟨f2_4_0, f2_4_1, f2_4_2, rfl, g2_4_0, g2_4_1, g2_4_2⟩ := inv_Type g2_4
  refine SpecO_intro Tryz.func204 rfl (by kernel_rfl) rfl (by simp) fun A _ => ?_
  refine gGO ?_
  refine VO_callO rfl c1 vA (by repeat constructor) (by repeat (first | exact rfl | constructor)) (by repeat constructor) rfl ?_
  refine gGO ?_
  refine VO_callO rfl c2 vA (by repeat constructor) (by repeat (first | exact rfl | constructor)) (by repeat constructor) rfl ?_
  refine gGO ?_
  refine V_ret ?_
  exact ⟨trivial, _, (by repeat (first | exact rfl | exact ResV_ag rfl rfl TI.h rfl rfl | exact ResV_one rfl rfl TI.h rfl | constructor)), by decide⟩
theorem toOMethod_grp (u : U) : (wt (.st 10) u → PToO 204 [9, 84, 118, 271] u) := by
  refine U.ind (M := fun u => (wt (.st 10) u → PToO 204 [9, 84, 118, 271] u)) (fun u ih => ?_) u
  refine ?_
  · intro h
    obtain ⟨f0, f1, f2, rfl, p0, p1, p2⟩ := inv_Method h
    exact toOMethod_step p0 (toOStringS_all p1) p2 (toOExpr_all p2)
theorem toOMethod_all {u : U} (h : wt (.st 10) u) : PToO 204 [9, 84, 118, 271] u := (toOMethod_grp u) h
theorem toOMethodS_all {us : List U} (h : us.length ≤ big ∧ ∀ x ∈ us, wt (.st 10) x) : PToO 190 [160] (.sl 11 us) := toOMethodS_step h.2 (fun a ha => toOMethod_all (h.2 a ha))
theorem zt_Instance : ZeroT (.st [.s [], .sl 1 [], .st [.i .i64 0, .s [], .sl 3 []], .sl 4 [], .b false, .b false, .st [.i .i64 0, .s [], .sl 3 []], .sl 11 []]) [.string ⟨#[]⟩, .slice none 0 0, .int .i64 0, .string ⟨#[]⟩, .slice none 0 0, .slice none 0 0, .bool false, .bool false, .int .i64 0, .string ⟨#[]⟩, .slice none 0 0, .slice none 0 0] := zeroT (by repeat constructor) (by repeat constructor)
set_option maxHeartbeats 4000000 in
theorem toOInstanceS_step {us : List U} (hz : ∀ a ∈ us, wt (.st 11) a) (ih : ∀ a ∈ us, PToO 168 [9, 84, 180, 84, 160] a) : PToO 115 [88] (.sl 12 us) := by
  intro hw
  have hW : W (.sl 12 us) = us.length + Ws us := rfl
  refine SpecO_intro Tryz.func115 rfl (by kernel_rfl) rfl (by simp) fun A _ => ?_
  refine gGO ?_
  refine VR_make rfl rfl TE.h TI.h TZ.h rfl zt_Instance (by omega) (by omega) (by rw [big_eq]; omega) (by omega) rfl (by repeat constructor) ?_
  rw [Int.toNat_natCast, fillU_zero]
  refine gGO ?_
  refine V_block ?_
  refine V_loop (α := Nat)
    (fun k => ⟨[(0, .d (.sl 12 us)), (3, .sl 0 0), (4, .d (.i .i64 k))], [.own 88 12 0 (fillU us (.st [.s [], .sl 1 [], .st [.i .i64 0, .s [], .sl 3 []], .sl 4 [], .b false, .b false, .st [.i .i64 0, .s [], .sl 3 []], .sl 11 []]) k)], Tryz.f115.ntmps⟩)
    (fun k => k ≤ us.length)
    (fun k => us.length - k) 0 ⟨rfl, ⟨⟨rfl, rfl⟩, ⟨rfl, rfl⟩, ⟨rfl, rfl⟩, trivial⟩, ⟨[], rfl⟩, rfl⟩ (by simp) ?_
  intro k hk
  refine gGO ?_
  (first | refine V_cond rfl (fun hc2 => ?_) (fun hc2 => ?_) | refine V_seq (V_cond rfl (fun hc2 => ?_) (fun hc2 => ?_)))
  · refine V_skip ?_
    simp only [decide_eq_true_eq] at hc2
    have hkl : k < us.length := by omega
    obtain ⟨a, hget⟩ : ∃ a, us[k]? = some a := ⟨_, List.getElem?_eq_getElem hkl⟩
    have hmem := List.mem_of_getElem? hget
    have hwk := W_le_of_mem hmem
    have hfl : (fillU us (.st [.s [], .sl 1 [], .st [.i .i64 0, .s [], .sl 3 []], .sl 4 [], .b false, .b false, .st [.i .i64 0, .s [], .sl 3 []], .sl 11 []]) k).length = us.length := fillU_length hk
    have hset := fillU_set (zu := .st [.s [], .sl 1 [], .st [.i .i64 0, .s [], .sl 3 []], .sl 4 [], .b false, .b false, .st [.i .i64 0, .s [], .sl 3 []], .sl 11 []]) hget
    have hcall := ih a hmem (by omega)
    have hwa := hz a hmem
    obtain ⟨a_0, a_1, a_2, a_3, a_4, a_5, a_6, a_7, rfl, hwa_0, hwa_1, hwa_2, hwa_3, hwa_6, hwa_7⟩ := inv_Instance hwa
    obtain ⟨a_2_0, a_2_1, a_2_2, rfl, hwa_2_0, hwa_2_1, hwa_2_2⟩ := inv_Type hwa_2
    obtain ⟨a_6_0, a_6_1, a_6_2, rfl, hwa_6_0, hwa_6_1, hwa_6_2⟩ := inv_Type hwa_6
    refine V_seq (V_block ?_)
    repeat (first | refine gGP ?_ | refine qO (Q_index rfl rfl TE.h TI.h (by omega) hget) ?_ | refine qQ (Q_index rfl rfl TE.h TI.h (by omega) hget) ?_ | refine qO (Q_index_own rfl rfl .own rfl TE.h TI.h (by omega) (by omega)) ?_ | refine qQ (Q_index_own rfl rfl .own rfl TE.h TI.h (by omega) (by omega)) ?_)
    refine VO_callO rfl hcall vA (by repeat constructor) (by repeat (first | exact rfl | constructor)) (by repeat constructor) rfl ?_
    repeat (first | refine gGP ?_ | refine qO (Q_index rfl rfl TE.h TI.h (by omega) hget) ?_ | refine qQ (Q_index rfl rfl TE.h TI.h (by omega) hget) ?_ | refine qO (Q_index_own rfl rfl .own rfl TE.h TI.h (by omega) (by omega)) ?_ | refine qQ (Q_index_own rfl rfl .own rfl TE.h TI.h (by omega) (by omega)) ?_)
    refine VR_store (u := .st [.s a_0, .sl 1 a_1, .st [.i .i64 a_2_0, .s a_2_1, .sl 3 a_2_2], .sl 4 a_3, .b a_4, .b a_5, .st [.i .i64 a_6_0, .s a_6_1, .sl 3 a_6_2], .sl 11 a_7]) rfl rfl (by repeat (first | exact rfl | constructor)) (by decide) TI.h rfl (by omega) (by repeat constructor) (by repeat constructor) ?_
    rw [Int.toNat_natCast, hset]
    refine gGO ?_
    refine ⟨k + 1, by omega, by omega, ⟨rfl, ⟨⟨rfl, rfl⟩, ⟨rfl, rfl⟩, ⟨rfl, rfl⟩, trivial⟩, ⟨_, rfl⟩, rfl⟩⟩
  · refine V_exit ?_
    simp only [decide_eq_false_iff_not] at hc2
    have hkl : k = us.length := by omega
    subst hkl
    show V _ _ _ _ _
    refine gGO ?_
    refine V_cast [.own 88 12 0 us] (by rw [fillU_all]) ?_
    refine V_ret ?_
    exact ⟨trivial, _, (by repeat (first | exact rfl | exact ResV_ag rfl rfl TI.h rfl rfl | exact ResV_one rfl rfl TI.h rfl | constructor)), by decide⟩
set_option maxHeartbeats 4000000 in
theorem toOInstance_step {f0 : List UInt8} {f1 : List U} {f2 : U} {f3 : List U} {f4 : Bool} {f5 : Bool} {f6 : U} {f7 : List U} (h0 : f0.length ≤ big) (h1 : PToO 88 [9] (.sl 1 f1)) (g2 : wt (.st 1) f2) (h2 : PToO 91 [84] f2) (h3 : PToO 89 [180] (.sl 4 f3)) (g6 : wt (.st 1) f6) (h6 : PToO 91 [84] f6) (h7 : PToO 190 [160] (.sl 11 f7)) : PToO 168 [9, 84, 180, 84, 160] (.st [.s f0, .sl 1 f1, f2, .sl 4 f3, .b f4, .b f5, f6, .sl 11 f7]) := by
  intro hw
  have hW : W (.st [.s f0, .sl 1 f1, f2, .sl 4 f3, .b f4, .b f5, f6, .sl 11 f7]) = f0.length + (W (U.sl 1 f1) + (W f2 + (W (U.sl 4 f3) + (0 + (0 + (W f6 + (W (U.sl 11 f7) + 0))))))) := rfl
  have c1 := h1 (by omega)
  clear h1
  have c2 := h2 (by omega)
  clear h2
  have c3 := h3 (by omega)
  clear h3
  have c6 := h6 (by omega)
  clear h6
  have c7 := h7 (by omega)
  clear h7
  clear hW hw
  obtain ⟨f2_0, f2_1, f2_2, rfl, g2_0, g2_1, g2_2⟩ := inv_Type g2
  obtain ⟨f6_0, f6_1, f6_2, rfl, g6_0, g6_1, g6_2⟩ := inv_Type g6
  refine SpecO_intro Tryz.func168 rfl (by kernel_rfl) rfl (by simp) fun A _ => ?_
  refine gGO ?_
  refine VO_callO rfl c1 vA (by repeat constructor) (by repeat (first | exact rfl | constructor)) (by repeat constructor) rfl ?_
  refine gGO ?_
  refine VO_callO rfl c2 vA (by repeat constructor) (by repeat (first | exact rfl | constructor)) (by repeat constructor) rfl ?_
  refine gGO ?_
  refine VO_callO rfl c3 vA (by repeat constructor) (by repeat (first | exact rfl | constructor)) (by repeat constructor) rfl ?_
  refine gGO ?_
  refine VO_callO rfl c6 vA (by repeat constructor) (by repeat (first | exact rfl | constructor)) (by repeat constructor) rfl ?_
  refine gGO ?_
  refine VO_callO rfl c7 vA (by repeat constructor) (by repeat (first | exact rfl | constructor)) (by repeat constructor) rfl ?_
  refine gGO ?_
  refine V_ret ?_
  exact ⟨trivial, _, (by repeat (first | exact rfl | exact ResV_ag rfl rfl TI.h rfl rfl | exact ResV_one rfl rfl TI.h rfl | constructor)), by decide⟩
theorem toOInstance_grp (u : U) : (wt (.st 11) u → PToO 168 [9, 84, 180, 84, 160] u) := by
  refine U.ind (M := fun u => (wt (.st 11) u → PToO 168 [9, 84, 180, 84, 160] u)) (fun u ih => ?_) u
  refine ?_
  · intro h
    obtain ⟨f0, f1, f2, f3, f4, f5, f6, f7, rfl, p0, p1, p2, p3, p6, p7⟩ := inv_Instance h
    exact toOInstance_step p0 (toOStringS_all p1) p2 (toOType_all p2) (toOBoundS_all p3) p6 (toOType_all p6) (toOMethodS_all p7)
theorem toOInstance_all {u : U} (h : wt (.st 11) u) : PToO 168 [9, 84, 180, 84, 160] u := (toOInstance_grp u) h
theorem toOInstanceS_all {us : List U} (h : us.length ≤ big ∧ ∀ x ∈ us, wt (.st 11) x) : PToO 115 [88] (.sl 12 us) := toOInstanceS_step h.2 (fun a ha => toOInstance_all (h.2 a ha))
theorem zt_Param : ZeroT (.st [.s [], .st [.i .i64 0, .s [], .sl 3 []]]) [.string ⟨#[]⟩, .int .i64 0, .string ⟨#[]⟩, .slice none 0 0] := zeroT (by repeat constructor) (by repeat constructor)
set_option maxHeartbeats 4000000 in
theorem toOParamS_step {us : List U} (hz : ∀ a ∈ us, wt (.st 12) a) (ih : ∀ a ∈ us, PToO 146 [84] a) : PToO 90 [182] (.sl 4 us) := by
  intro hw
  have hW : W (.sl 4 us) = us.length + Ws us := rfl
  refine SpecO_intro Tryz.func90 rfl (by kernel_rfl) rfl (by simp) fun A _ => ?_
  refine gGO ?_
  refine VR_make rfl rfl TE.h TI.h TZ.h rfl zt_Param (by omega) (by omega) (by rw [big_eq]; omega) (by omega) rfl (by repeat constructor) ?_
  rw [Int.toNat_natCast, fillU_zero]
  refine gGO ?_
  refine V_block ?_
  refine V_loop (α := Nat)
    (fun k => ⟨[(0, .d (.sl 4 us)), (3, .sl 0 0), (4, .d (.i .i64 k))], [.own 182 4 0 (fillU us (.st [.s [], .st [.i .i64 0, .s [], .sl 3 []]]) k)], Tryz.f90.ntmps⟩)
    (fun k => k ≤ us.length)
    (fun k => us.length - k) 0 ⟨rfl, ⟨⟨rfl, rfl⟩, ⟨rfl, rfl⟩, ⟨rfl, rfl⟩, trivial⟩, ⟨[], rfl⟩, rfl⟩ (by simp) ?_
  intro k hk
  refine gGO ?_
  (first | refine V_cond rfl (fun hc2 => ?_) (fun hc2 => ?_) | refine V_seq (V_cond rfl (fun hc2 => ?_) (fun hc2 => ?_)))
  · refine V_skip ?_
    simp only [decide_eq_true_eq] at hc2
    have hkl : k < us.length := by omega
    obtain ⟨a, hget⟩ : ∃ a, us[k]? = some a := ⟨_, List.getElem?_eq_getElem hkl⟩
    have hmem := List.mem_of_getElem? hget
    have hwk := W_le_of_mem hmem
    have hfl : (fillU us (.st [.s [], .st [.i .i64 0, .s [], .sl 3 []]]) k).length = us.length := fillU_length hk
    have hset := fillU_set (zu := .st [.s [], .st [.i .i64 0, .s [], .sl 3 []]]) hget
    have hcall := ih a hmem (by omega)
    have hwa := hz a hmem
    obtain ⟨a_0, a_1, rfl, hwa_0, hwa_1⟩ := inv_Param hwa
    obtain ⟨a_1_0, a_1_1, a_1_2, rfl, hwa_1_0, hwa_1_1, hwa_1_2⟩ := inv_Type hwa_1
    refine V_seq (V_block ?_)
    repeat (first | refine gGP ?_ | refine qO (Q_index rfl rfl TE.h TI.h (by omega) hget) ?_ | refine qQ (Q_index rfl rfl TE.h TI.h (by omega) hget) ?_ | refine qO (Q_index_own rfl rfl .own rfl TE.h TI.h (by omega) (by omega)) ?_ | refine qQ (Q_index_own rfl rfl .own rfl TE.h TI.h (by omega) (by omega)) ?_)
    refine VO_callO rfl hcall vA (by repeat constructor) (by repeat (first | exact rfl | constructor)) (by repeat constructor) rfl ?_
    repeat (first | refine gGP ?_ | refine qO (Q_index rfl rfl TE.h TI.h (by omega) hget) ?_ | refine qQ (Q_index rfl rfl TE.h TI.h (by omega) hget) ?_ | refine qO (Q_index_own rfl rfl .own rfl TE.h TI.h (by omega) (by omega)) ?_ | refine qQ (Q_index_own rfl rfl .own rfl TE.h TI.h (by omega) (by omega)) ?_)
    refine VR_store (u := .st [.s a_0, .st [.i .i64 a_1_0, .s a_1_1, .sl 3 a_1_2]]) rfl rfl (by repeat (first | exact rfl | constructor)) (by decide) TI.h rfl (by omega) (by repeat constructor) (by repeat constructor) ?_
    rw [Int.toNat_natCast, hset]
    refine gGO ?_
    refine ⟨k + 1, by omega, by omega, ⟨rfl, ⟨⟨rfl, rfl⟩, ⟨rfl, rfl⟩, ⟨rfl, rfl⟩, trivial⟩, ⟨_, rfl⟩, rfl⟩⟩
  · refine V_exit ?_
    simp only [decide_eq_false_iff_not] at hc2
    have hkl : k = us.length := by omega
    subst hkl
    show V _ _ _ _ _
    refine gGO ?_
    refine V_cast [.own 182 4 0 us] (by rw [fillU_all]) ?_
    refine V_ret ?_
    exact ⟨trivial, _, (by repeat (first | exact rfl | exact ResV_ag rfl rfl TI.h rfl rfl | exact ResV_one rfl rfl TI.h rfl | constructor)), by decide⟩
set_option maxHeartbeats 4000000 in
theorem toOParam_step {f0 : List UInt8} {f1 : U} (h0 : f0.length ≤ big) (g1 : wt (.st 1) f1) (h1 : PToO 91 [84] f1) : PToO 146 [84] (.st [.s f0, f1]) := by
  intro hw
  have hW : W (.st [.s f0, f1]) = f0.length + (W f1 + 0) := rfl
  have c1 := h1 (by omega)
  clear h1
  clear hW hw
  obtain ⟨f1_0, f1_1, f1_2, rfl, g1_0, g1_1, g1_2⟩ := inv_Type g1
  refine SpecO_intro Tryz.func146 rfl (by kernel_rfl) rfl (by simp) fun A _ => ?_
  refine gGO ?_
  refine VO_callO rfl c1 vA (by repeat constructor) (by repeat (first | exact rfl | constructor)) (by repeat constructor) rfl ?_
  refine gGO ?_
  refine V_ret ?_
  exact ⟨trivial, _, (by repeat (first | exact rfl | exact ResV_ag rfl rfl TI.h rfl rfl | exact ResV_one rfl rfl TI.h rfl | constructor)), by decide⟩
theorem toOParam_grp (u : U) : (wt (.st 12) u → PToO 146 [84] u) := by
  refine U.ind (M := fun u => (wt (.st 12) u → PToO 146 [84] u)) (fun u ih => ?_) u
  refine ?_
  · intro h
    obtain ⟨f0, f1, rfl, p0, p1⟩ := inv_Param h
    exact toOParam_step p0 p1 (toOType_all p1)
theorem toOParam_all {u : U} (h : wt (.st 12) u) : PToO 146 [84] u := (toOParam_grp u) h
theorem toOParamS_all {us : List U} (h : us.length ≤ big ∧ ∀ x ∈ us, wt (.st 12) x) : PToO 90 [182] (.sl 4 us) := toOParamS_step h.2 (fun a ha => toOParam_all (h.2 a ha))
theorem zt_Function : ZeroT (.st [.s [], .sl 1 [], .sl 4 [], .sl 4 [], .st [.i .i64 0, .s [], .sl 3 []], .st [.i .i64 0, .s [], .s [], .i .i64 0, .st [.i .i64 0, .s [], .sl 3 []], .sl 9 [], .sl 11 []]]) [.string ⟨#[]⟩, .slice none 0 0, .slice none 0 0, .slice none 0 0, .int .i64 0, .string ⟨#[]⟩, .slice none 0 0, .int .i64 0, .string ⟨#[]⟩, .string ⟨#[]⟩, .int .i64 0, .int .i64 0, .string ⟨#[]⟩, .slice none 0 0, .slice none 0 0, .slice none 0 0] := zeroT (by repeat constructor) (by repeat constructor)
set_option maxHeartbeats 4000000 in
theorem toOFunctionS_step {us : List U} (hz : ∀ a ∈ us, wt (.st 13) a) (ih : ∀ a ∈ us, PToO 169 [9, 180, 182, 84, 84, 118, 271] a) : PToO 116 [199] (.sl 16 us) := by
  intro hw
  have hW : W (.sl 16 us) = us.length + Ws us := rfl
  refine SpecO_intro Tryz.func116 rfl (by kernel_rfl) rfl (by simp) fun A _ => ?_
  refine gGO ?_
  refine VR_make rfl rfl TE.h TI.h TZ.h rfl zt_Function (by omega) (by omega) (by rw [big_eq]; omega) (by omega) rfl (by repeat constructor) ?_
  rw [Int.toNat_natCast, fillU_zero]
  refine gGO ?_
  refine V_block ?_
  refine V_loop (α := Nat)
    (fun k => ⟨[(0, .d (.sl 16 us)), (3, .sl 0 0), (4, .d (.i .i64 k))], [.own 199 16 0 (fillU us (.st [.s [], .sl 1 [], .sl 4 [], .sl 4 [], .st [.i .i64 0, .s [], .sl 3 []], .st [.i .i64 0, .s [], .s [], .i .i64 0, .st [.i .i64 0, .s [], .sl 3 []], .sl 9 [], .sl 11 []]]) k)], Tryz.f116.ntmps⟩)
    (fun k => k ≤ us.length)
    (fun k => us.length - k) 0 ⟨rfl, ⟨⟨rfl, rfl⟩, ⟨rfl, rfl⟩, ⟨rfl, rfl⟩, trivial⟩, ⟨[], rfl⟩, rfl⟩ (by simp) ?_
  intro k hk
  refine gGO ?_
  (first | refine V_cond rfl (fun hc2 => ?_) (fun hc2 => ?_) | refine V_seq (V_cond rfl (fun hc2 => ?_) (fun hc2 => ?_)))
  · refine V_skip ?_
    simp only [decide_eq_true_eq] at hc2
    have hkl : k < us.length := by omega
    obtain ⟨a, hget⟩ : ∃ a, us[k]? = some a := ⟨_, List.getElem?_eq_getElem hkl⟩
    have hmem := List.mem_of_getElem? hget
    have hwk := W_le_of_mem hmem
    have hfl : (fillU us (.st [.s [], .sl 1 [], .sl 4 [], .sl 4 [], .st [.i .i64 0, .s [], .sl 3 []], .st [.i .i64 0, .s [], .s [], .i .i64 0, .st [.i .i64 0, .s [], .sl 3 []], .sl 9 [], .sl 11 []]]) k).length = us.length := fillU_length hk
    have hset := fillU_set (zu := .st [.s [], .sl 1 [], .sl 4 [], .sl 4 [], .st [.i .i64 0, .s [], .sl 3 []], .st [.i .i64 0, .s [], .s [], .i .i64 0, .st [.i .i64 0, .s [], .sl 3 []], .sl 9 [], .sl 11 []]]) hget
    have hcall := ih a hmem (by omega)
    have hwa := hz a hmem
    obtain ⟨a_0, a_1, a_2, a_3, a_4, a_5, rfl, hwa_0, hwa_1, hwa_2, hwa_3, hwa_4, hwa_5⟩ := inv_Function hwa
    obtain ⟨a_4_0, a_4_1, a_4_2, rfl, hwa_4_0, hwa_4_1, hwa_4_2⟩ := inv_Type hwa_4
    obtain ⟨a_5_0, a_5_1, a_5_2, a_5_3, a_5_4, a_5_5, a_5_6, rfl, hwa_5_0, hwa_5_1, hwa_5_2, hwa_5_3, hwa_5_4, hwa_5_5, hwa_5_6⟩ := inv_Expr hwa_5
    obtain ⟨a_5_4_0, a_5_4_1, a_5_4_2, rfl, hwa_5_4_0, hwa_5_4_1, hwa_5_4_2⟩ := inv_Type hwa_5_4
    refine V_seq (V_block ?_)
    repeat (first | refine gGP ?_ | refine qO (Q_index rfl rfl TE.h TI.h (by omega) hget) ?_ | refine qQ (Q_index rfl rfl TE.h TI.h (by omega) hget) ?_ | refine qO (Q_index_own rfl rfl .own rfl TE.h TI.h (by omega) (by omega)) ?_ | refine qQ (Q_index_own rfl rfl .own rfl TE.h TI.h (by omega) (by omega)) ?_)
    refine VO_callO rfl hcall vA (by repeat constructor) (by repeat (first | exact rfl | constructor)) (by repeat constructor) rfl ?_
    repeat (first | refine gGP ?_ | refine qO (Q_index rfl rfl TE.h TI.h (by omega) hget) ?_ | refine qQ (Q_index rfl rfl TE.h TI.h (by omega) hget) ?_ | refine qO (Q_index_own rfl rfl .own rfl TE.h TI.h (by omega) (by omega)) ?_ | refine qQ (Q_index_own rfl rfl .own rfl TE.h TI.h (by omega) (by omega)) ?_)
    refine VR_store (u := .st [.s a_0, .sl 1 a_1, .sl 4 a_2, .sl 4 a_3, .st [.i .i64 a_4_0, .s a_4_1, .sl 3 a_4_2], .st [.i .i64 a_5_0, .s a_5_1, .s a_5_2, .i .i64 a_5_3, .st [.i .i64 a_5_4_0, .s a_5_4_1, .sl 3 a_5_4_2], .sl 9 a_5_5, .sl 11 a_5_6]]) rfl rfl (by repeat (first | exact rfl | constructor)) (by decide) TI.h rfl (by omega) (by repeat constructor) (by repeat constructor) ?_
    rw [Int.toNat_natCast, hset]
    refine gGO ?_
    refine ⟨k + 1, by omega, by omega, ⟨rfl, ⟨⟨rfl, rfl⟩, ⟨rfl, rfl⟩, ⟨rfl, rfl⟩, trivial⟩, ⟨_, rfl⟩, rfl⟩⟩
  · refine V_exit ?_
    simp only [decide_eq_false_iff_not] at hc2
    have hkl : k = us.length := by omega
    subst hkl
    show V _ _ _ _ _
    refine gGO ?_
    refine V_cast [.own 199 16 0 us] (by rw [fillU_all]) ?_
    refine V_ret ?_
    exact ⟨trivial, _, (by repeat (first | exact rfl | exact ResV_ag rfl rfl TI.h rfl rfl | exact ResV_one rfl rfl TI.h rfl | constructor)), by decide⟩
set_option maxHeartbeats 4000000 in
theorem toOFunction_step {f0 : List UInt8} {f1 : List U} {f2 : List U} {f3 : List U} {f4 : U} {f5 : U} (h0 : f0.length ≤ big) (h1 : PToO 88 [9] (.sl 1 f1)) (h2 : PToO 89 [180] (.sl 4 f2)) (h3 : PToO 90 [182] (.sl 4 f3)) (g4 : wt (.st 1) f4) (h4 : PToO 91 [84] f4) (g5 : wt (.st 4) f5) (h5 : PToO 191 [84, 118, 271] f5) : PToO 169 [9, 180, 182, 84, 84, 118, 271] (.st [.s f0, .sl 1 f1, .sl 4 f2, .sl 4 f3, f4, f5]) := by
  intro hw
  have hW : W (.st [.s f0, .sl 1 f1, .sl 4 f2, .sl 4 f3, f4, f5]) = f0.length + (W (U.sl 1 f1) + (W (U.sl 4 f2) + (W (U.sl 4 f3) + (W f4 + (W f5 + 0))))) := rfl
  have c1 := h1 (by omega)
  clear h1
  have c2 := h2 (by omega)
  clear h2
  have c3 := h3 (by omega)
  clear h3
  have c4 := h4 (by omega)
  clear h4
  have c5 := h5 (by omega)
  clear h5
  clear hW hw
  obtain ⟨f4_0, f4_1, f4_2, rfl, g4_0, g4_1, g4_2⟩ := inv_Type g4
  obtain ⟨f5_0, f5_1, f5_2, f5_3, f5_4, f5_5, f5_6, rfl, g5_0, g5_1, g5_2, g5_3, g5_4, g5_5, g5_6⟩ := inv_Expr g5
  obtain ⟨f5_4_0, f5_4_1, f5_4_2, rfl, g5_4_0, g5_4_1, g5_4_2⟩ := inv_Type g5_4
  refine SpecO_intro Tryz.func169 rfl (by kernel_rfl) rfl (by simp) fun A _ => ?_
  refine gGO ?_
  refine VO_callO rfl c1 vA (by repeat constructor) (by repeat (first | exact rfl | constructor)) (by repeat constructor) rfl ?_
  refine gGO ?_
  refine VO_callO rfl c2 vA (by repeat constructor) (by repeat (first | exact rfl | constructor)) (by repeat constructor) rfl ?_
  refine gGO ?_
  refine VO_callO rfl c3 vA (by repeat constructor) (by repeat (first | exact rfl | constructor)) (by repeat constructor) rfl ?_
  refine gGO ?_
  refine VO_callO rfl c4 vA (by repeat constructor) (by repeat (first | exact rfl | constructor)) (by repeat constructor) rfl ?_
  refine gGO ?_
  refine VO_callO rfl c5 vA (by repeat constructor) (by repeat (first | exact rfl | constructor)) (by repeat constructor) rfl ?_
  refine gGO ?_
  refine V_ret ?_
  exact ⟨trivial, _, (by repeat (first | exact rfl | exact ResV_ag rfl rfl TI.h rfl rfl | exact ResV_one rfl rfl TI.h rfl | constructor)), by decide⟩
theorem toOFunction_grp (u : U) : (wt (.st 13) u → PToO 169 [9, 180, 182, 84, 84, 118, 271] u) := by
  refine U.ind (M := fun u => (wt (.st 13) u → PToO 169 [9, 180, 182, 84, 84, 118, 271] u)) (fun u ih => ?_) u
  refine ?_
  · intro h
    obtain ⟨f0, f1, f2, f3, f4, f5, rfl, p0, p1, p2, p3, p4, p5⟩ := inv_Function h
    exact toOFunction_step p0 (toOStringS_all p1) (toOBoundS_all p2) (toOParamS_all p3) p4 (toOType_all p4) p5 (toOExpr_all p5)
theorem toOFunction_all {u : U} (h : wt (.st 13) u) : PToO 169 [9, 180, 182, 84, 84, 118, 271] u := (toOFunction_grp u) h
theorem toOFunctionS_all {us : List U} (h : us.length ≤ big ∧ ∀ x ∈ us, wt (.st 13) x) : PToO 116 [199] (.sl 16 us) := toOFunctionS_step h.2 (fun a ha => toOFunction_all (h.2 a ha))
theorem zt_Package : ZeroT (.st [.s [], .sl 1 [], .sl 5 [], .sl 3 [], .sl 12 [], .sl 16 []]) [.string ⟨#[]⟩, .slice none 0 0, .slice none 0 0, .slice none 0 0, .slice none 0 0, .slice none 0 0] := zeroT (by repeat constructor) (by repeat constructor)
set_option maxHeartbeats 4000000 in
theorem toOPackageS_step {us : List U} (hz : ∀ a ∈ us, wt (.st 14) a) (ih : ∀ a ∈ us, PToO 69 [9, 112, 195, 88, 199] a) : PToO 29 [128] (.sl 6 us) := by
  intro hw
  have hW : W (.sl 6 us) = us.length + Ws us := rfl
  refine SpecO_intro Tryz.func29 rfl (by kernel_rfl) rfl (by simp) fun A _ => ?_
  refine gGO ?_
  refine VR_make rfl rfl TE.h TI.h TZ.h rfl zt_Package (by omega) (by omega) (by rw [big_eq]; omega) (by omega) rfl (by repeat constructor) ?_
  rw [Int.toNat_natCast, fillU_zero]
  refine gGO ?_
  refine V_block ?_
  refine V_loop (α := Nat)
    (fun k => ⟨[(0, .d (.sl 6 us)), (3, .sl 0 0), (4, .d (.i .i64 k))], [.own 128 6 0 (fillU us (.st [.s [], .sl 1 [], .sl 5 [], .sl 3 [], .sl 12 [], .sl 16 []]) k)], Tryz.f29.ntmps⟩)
    (fun k => k ≤ us.length)
    (fun k => us.length - k) 0 ⟨rfl, ⟨⟨rfl, rfl⟩, ⟨rfl, rfl⟩, ⟨rfl, rfl⟩, trivial⟩, ⟨[], rfl⟩, rfl⟩ (by simp) ?_
  intro k hk
  refine gGO ?_
  (first | refine V_cond rfl (fun hc2 => ?_) (fun hc2 => ?_) | refine V_seq (V_cond rfl (fun hc2 => ?_) (fun hc2 => ?_)))
  · refine V_skip ?_
    simp only [decide_eq_true_eq] at hc2
    have hkl : k < us.length := by omega
    obtain ⟨a, hget⟩ : ∃ a, us[k]? = some a := ⟨_, List.getElem?_eq_getElem hkl⟩
    have hmem := List.mem_of_getElem? hget
    have hwk := W_le_of_mem hmem
    have hfl : (fillU us (.st [.s [], .sl 1 [], .sl 5 [], .sl 3 [], .sl 12 [], .sl 16 []]) k).length = us.length := fillU_length hk
    have hset := fillU_set (zu := .st [.s [], .sl 1 [], .sl 5 [], .sl 3 [], .sl 12 [], .sl 16 []]) hget
    have hcall := ih a hmem (by omega)
    have hwa := hz a hmem
    obtain ⟨a_0, a_1, a_2, a_3, a_4, a_5, rfl, hwa_0, hwa_1, hwa_2, hwa_3, hwa_4, hwa_5⟩ := inv_Package hwa
    refine V_seq (V_block ?_)
    repeat (first | refine gGP ?_ | refine qO (Q_index rfl rfl TE.h TI.h (by omega) hget) ?_ | refine qQ (Q_index rfl rfl TE.h TI.h (by omega) hget) ?_ | refine qO (Q_index_own rfl rfl .own rfl TE.h TI.h (by omega) (by omega)) ?_ | refine qQ (Q_index_own rfl rfl .own rfl TE.h TI.h (by omega) (by omega)) ?_)
    refine VO_callO rfl hcall vA (by repeat constructor) (by repeat (first | exact rfl | constructor)) (by repeat constructor) rfl ?_
    repeat (first | refine gGP ?_ | refine qO (Q_index rfl rfl TE.h TI.h (by omega) hget) ?_ | refine qQ (Q_index rfl rfl TE.h TI.h (by omega) hget) ?_ | refine qO (Q_index_own rfl rfl .own rfl TE.h TI.h (by omega) (by omega)) ?_ | refine qQ (Q_index_own rfl rfl .own rfl TE.h TI.h (by omega) (by omega)) ?_)
    refine VR_store (u := .st [.s a_0, .sl 1 a_1, .sl 5 a_2, .sl 3 a_3, .sl 12 a_4, .sl 16 a_5]) rfl rfl (by repeat (first | exact rfl | constructor)) (by decide) TI.h rfl (by omega) (by repeat constructor) (by repeat constructor) ?_
    rw [Int.toNat_natCast, hset]
    refine gGO ?_
    refine ⟨k + 1, by omega, by omega, ⟨rfl, ⟨⟨rfl, rfl⟩, ⟨rfl, rfl⟩, ⟨rfl, rfl⟩, trivial⟩, ⟨_, rfl⟩, rfl⟩⟩
  · refine V_exit ?_
    simp only [decide_eq_false_iff_not] at hc2
    have hkl : k = us.length := by omega
    subst hkl
    show V _ _ _ _ _
    refine gGO ?_
    refine V_cast [.own 128 6 0 us] (by rw [fillU_all]) ?_
    refine V_ret ?_
    exact ⟨trivial, _, (by repeat (first | exact rfl | exact ResV_ag rfl rfl TI.h rfl rfl | exact ResV_one rfl rfl TI.h rfl | constructor)), by decide⟩
set_option maxHeartbeats 4000000 in
theorem toOPackage_step {f0 : List UInt8} {f1 : List U} {f2 : List U} {f3 : List U} {f4 : List U} {f5 : List U} (h0 : f0.length ≤ big) (h1 : PToO 88 [9] (.sl 1 f1)) (h2 : PToO 113 [112] (.sl 5 f2)) (h3 : PToO 114 [195] (.sl 3 f3)) (h4 : PToO 115 [88] (.sl 12 f4)) (h5 : PToO 116 [199] (.sl 16 f5)) : PToO 69 [9, 112, 195, 88, 199] (.st [.s f0, .sl 1 f1, .sl 5 f2, .sl 3 f3, .sl 12 f4, .sl 16 f5]) := by
  intro hw
  have hW : W (.st [.s f0, .sl 1 f1, .sl 5 f2, .sl 3 f3, .sl 12 f4, .sl 16 f5]) = f0.length + (W (U.sl 1 f1) + (W (U.sl 5 f2) + (W (U.sl 3 f3) + (W (U.sl 12 f4) + (W (U.sl 16 f5) + 0))))) := rfl
  have c1 := h1 (by omega)
  clear h1
  have c2 := h2 (by omega)
  clear h2
  have c3 := h3 (by omega)
  clear h3
  have c4 := h4 (by omega)
  clear h4
  have c5 := h5 (by omega)
  clear h5
  clear hW hw
  refine SpecO_intro Tryz.func69 rfl (by kernel_rfl) rfl (by simp) fun A _ => ?_
  refine gGO ?_
  refine VO_callO rfl c1 vA (by repeat constructor) (by repeat (first | exact rfl | constructor)) (by repeat constructor) rfl ?_
  refine gGO ?_
  refine VO_callO rfl c2 vA (by repeat constructor) (by repeat (first | exact rfl | constructor)) (by repeat constructor) rfl ?_
  refine gGO ?_
  refine VO_callO rfl c3 vA (by repeat constructor) (by repeat (first | exact rfl | constructor)) (by repeat constructor) rfl ?_
  refine gGO ?_
  refine VO_callO rfl c4 vA (by repeat constructor) (by repeat (first | exact rfl | constructor)) (by repeat constructor) rfl ?_
  refine gGO ?_
  refine VO_callO rfl c5 vA (by repeat constructor) (by repeat (first | exact rfl | constructor)) (by repeat constructor) rfl ?_
  refine gGO ?_
  refine V_ret ?_
  exact ⟨trivial, _, (by repeat (first | exact rfl | exact ResV_ag rfl rfl TI.h rfl rfl | exact ResV_one rfl rfl TI.h rfl | constructor)), by decide⟩
theorem toOPackage_grp (u : U) : (wt (.st 14) u → PToO 69 [9, 112, 195, 88, 199] u) := by
  refine U.ind (M := fun u => (wt (.st 14) u → PToO 69 [9, 112, 195, 88, 199] u)) (fun u ih => ?_) u
  refine ?_
  · intro h
    obtain ⟨f0, f1, f2, f3, f4, f5, rfl, p0, p1, p2, p3, p4, p5⟩ := inv_Package h
    exact toOPackage_step p0 (toOStringS_all p1) (toOTraitS_all p2) (toODataTypeS_all p3) (toOInstanceS_all p4) (toOFunctionS_all p5)
theorem toOPackage_all {u : U} (h : wt (.st 14) u) : PToO 69 [9, 112, 195, 88, 199] u := (toOPackage_grp u) h
theorem toOPackageS_all {us : List U} (h : us.length ≤ big ∧ ∀ x ∈ us, wt (.st 14) x) : PToO 29 [128] (.sl 6 us) := toOPackageS_step h.2 (fun a ha => toOPackage_all (h.2 a ha))
set_option maxHeartbeats 4000000 in
theorem toOProgram_step {f0 : List U} (h0 : PToO 29 [128] (.sl 6 f0)) : PToO 7 [128] (.st [.sl 6 f0]) := by
  intro hw
  have hW : W (.st [.sl 6 f0]) = W (U.sl 6 f0) + 0 := rfl
  have c0 := h0 (by omega)
  clear h0
  clear hW hw
  refine SpecO_intro Tryz.func7 rfl (by kernel_rfl) rfl (by simp) fun A _ => ?_
  refine gGO ?_
  refine VO_callO rfl c0 vA (by repeat constructor) (by repeat (first | exact rfl | constructor)) (by repeat constructor) rfl ?_
  refine gGO ?_
  refine V_ret ?_
  exact ⟨trivial, _, (by repeat (first | exact rfl | exact ResV_ag rfl rfl TI.h rfl rfl | exact ResV_one rfl rfl TI.h rfl | constructor)), by decide⟩
theorem toOProgram_grp (u : U) : (wt (.st 15) u → PToO 7 [128] u) := by
  refine U.ind (M := fun u => (wt (.st 15) u → PToO 7 [128] u)) (fun u ih => ?_) u
  refine ?_
  · intro h
    obtain ⟨f0, rfl, p0⟩ := inv_Program h
    exact toOProgram_step (toOPackageS_all p0)
theorem toOProgram_all {u : U} (h : wt (.st 15) u) : PToO 7 [128] u := (toOProgram_grp u) h
set_option maxHeartbeats 4000000 in
theorem toOInstanceRef_step {f0 : Int} {f1 : Int}  : PToO 43 [] (.st [.i .i64 f0, .i .i64 f1]) := by
  intro hw
  have hW : W (.st [.i .i64 f0, .i .i64 f1]) = 0 + (0 + 0) := rfl
  clear hW hw
  refine SpecO_intro Tryz.func43 rfl (by kernel_rfl) rfl (by simp) fun A _ => ?_
  refine gGO ?_
  refine V_ret ?_
  exact ⟨trivial, _, (by repeat (first | exact rfl | exact ResV_ag rfl rfl TI.h rfl rfl | exact ResV_one rfl rfl TI.h rfl | constructor)), by decide⟩
theorem toOInstanceRef_grp (u : U) : (wt (.st 16) u → PToO 43 [] u) := by
  refine U.ind (M := fun u => (wt (.st 16) u → PToO 43 [] u)) (fun u ih => ?_) u
  refine ?_
  · intro h
    obtain ⟨f0, f1, rfl, p0, p1⟩ := inv_InstanceRef h
    exact toOInstanceRef_step 
theorem toOInstanceRef_all {u : U} (h : wt (.st 16) u) : PToO 43 [] u := (toOInstanceRef_grp u) h
theorem zt_Evidence : ZeroT (.st [.i .i64 0, .i .i64 0, .st [.i .i64 0, .i .i64 0], .sl 5 []]) [.int .i64 0, .int .i64 0, .int .i64 0, .int .i64 0, .slice none 0 0] := zeroT (by repeat constructor) (by repeat constructor)
set_option maxHeartbeats 4000000 in
theorem toOEvidenceS_step {us : List U} (hz : ∀ a ∈ us, wt (.st 18) a) (ih : ∀ a ∈ us, PToO 180 [185] a) : PToO 148 [185] (.sl 5 us) := by
  intro hw
  have hW : W (.sl 5 us) = us.length + Ws us := rfl
  refine SpecO_intro Tryz.func148 rfl (by kernel_rfl) rfl (by simp) fun A _ => ?_
  refine gGO ?_
  refine VR_make rfl rfl TE.h TI.h TZ.h rfl zt_Evidence (by omega) (by omega) (by rw [big_eq]; omega) (by omega) rfl (by repeat constructor) ?_
  rw [Int.toNat_natCast, fillU_zero]
  refine gGO ?_
  refine V_block ?_
  refine V_loop (α := Nat)
    (fun k => ⟨[(0, .d (.sl 5 us)), (3, .sl 0 0), (4, .d (.i .i64 k))], [.own 185 5 0 (fillU us (.st [.i .i64 0, .i .i64 0, .st [.i .i64 0, .i .i64 0], .sl 5 []]) k)], Tryz.f148.ntmps⟩)
    (fun k => k ≤ us.length)
    (fun k => us.length - k) 0 ⟨rfl, ⟨⟨rfl, rfl⟩, ⟨rfl, rfl⟩, ⟨rfl, rfl⟩, trivial⟩, ⟨[], rfl⟩, rfl⟩ (by simp) ?_
  intro k hk
  refine gGO ?_
  (first | refine V_cond rfl (fun hc2 => ?_) (fun hc2 => ?_) | refine V_seq (V_cond rfl (fun hc2 => ?_) (fun hc2 => ?_)))
  · refine V_skip ?_
    simp only [decide_eq_true_eq] at hc2
    have hkl : k < us.length := by omega
    obtain ⟨a, hget⟩ : ∃ a, us[k]? = some a := ⟨_, List.getElem?_eq_getElem hkl⟩
    have hmem := List.mem_of_getElem? hget
    have hwk := W_le_of_mem hmem
    have hfl : (fillU us (.st [.i .i64 0, .i .i64 0, .st [.i .i64 0, .i .i64 0], .sl 5 []]) k).length = us.length := fillU_length hk
    have hset := fillU_set (zu := .st [.i .i64 0, .i .i64 0, .st [.i .i64 0, .i .i64 0], .sl 5 []]) hget
    have hcall := ih a hmem (by omega)
    have hwa := hz a hmem
    obtain ⟨a_0, a_1, a_2, a_3, rfl, hwa_0, hwa_1, hwa_2, hwa_3⟩ := inv_Evidence hwa
    obtain ⟨a_2_0, a_2_1, rfl, hwa_2_0, hwa_2_1⟩ := inv_InstanceRef hwa_2
    refine V_seq (V_block ?_)
    repeat (first | refine gGP ?_ | refine qO (Q_index rfl rfl TE.h TI.h (by omega) hget) ?_ | refine qQ (Q_index rfl rfl TE.h TI.h (by omega) hget) ?_ | refine qO (Q_index_own rfl rfl .own rfl TE.h TI.h (by omega) (by omega)) ?_ | refine qQ (Q_index_own rfl rfl .own rfl TE.h TI.h (by omega) (by omega)) ?_)
    refine VO_callO rfl hcall vA (by repeat constructor) (by repeat (first | exact rfl | constructor)) (by repeat constructor) rfl ?_
    repeat (first | refine gGP ?_ | refine qO (Q_index rfl rfl TE.h TI.h (by omega) hget) ?_ | refine qQ (Q_index rfl rfl TE.h TI.h (by omega) hget) ?_ | refine qO (Q_index_own rfl rfl .own rfl TE.h TI.h (by omega) (by omega)) ?_ | refine qQ (Q_index_own rfl rfl .own rfl TE.h TI.h (by omega) (by omega)) ?_)
    refine VR_store (u := .st [.i .i64 a_0, .i .i64 a_1, .st [.i .i64 a_2_0, .i .i64 a_2_1], .sl 5 a_3]) rfl rfl (by repeat (first | exact rfl | constructor)) (by decide) TI.h rfl (by omega) (by repeat constructor) (by repeat constructor) ?_
    rw [Int.toNat_natCast, hset]
    refine gGO ?_
    refine ⟨k + 1, by omega, by omega, ⟨rfl, ⟨⟨rfl, rfl⟩, ⟨rfl, rfl⟩, ⟨rfl, rfl⟩, trivial⟩, ⟨_, rfl⟩, rfl⟩⟩
  · refine V_exit ?_
    simp only [decide_eq_false_iff_not] at hc2
    have hkl : k = us.length := by omega
    subst hkl
    show V _ _ _ _ _
    refine gGO ?_
    refine V_cast [.own 185 5 0 us] (by rw [fillU_all]) ?_
    refine V_ret ?_
    exact ⟨trivial, _, (by repeat (first | exact rfl | exact ResV_ag rfl rfl TI.h rfl rfl | exact ResV_one rfl rfl TI.h rfl | constructor)), by decide⟩
set_option maxHeartbeats 4000000 in
theorem toOEvidence_step {f0 : Int} {f1 : Int} {f2 : U} {f3 : List U} (g2 : wt (.st 16) f2) (h2 : PToO 43 [] f2) (h3 : PToO 148 [185] (.sl 5 f3)) : PToO 180 [185] (.st [.i .i64 f0, .i .i64 f1, f2, .sl 5 f3]) := by
  intro hw
  have hW : W (.st [.i .i64 f0, .i .i64 f1, f2, .sl 5 f3]) = 0 + (0 + (W f2 + (W (U.sl 5 f3) + 0))) := rfl
  have c2 := h2 (by omega)
  clear h2
  have c3 := h3 (by omega)
  clear h3
  clear hW hw
  obtain ⟨f2_0, f2_1, rfl, g2_0, g2_1⟩ := inv_InstanceRef g2
  refine SpecO_intro Tryz.func180 rfl (by kernel_rfl) rfl (by simp) fun A _ => ?_
  refine gGO ?_
  refine VO_callO rfl c2 vA (by repeat constructor) (by repeat (first | exact rfl | constructor)) (by repeat constructor) rfl ?_
  refine gGO ?_
  refine VO_callO rfl c3 vA (by repeat constructor) (by repeat (first | exact rfl | constructor)) (by repeat constructor) rfl ?_
  refine gGO ?_
  refine V_ret ?_
  exact ⟨trivial, _, (by repeat (first | exact rfl | exact ResV_ag rfl rfl TI.h rfl rfl | exact ResV_one rfl rfl TI.h rfl | constructor)), by decide⟩
theorem toOEvidence_grp (u : U) : (wt (.st 18) u → PToO 180 [185] u) := by
  refine U.ind (M := fun u => (wt (.st 18) u → PToO 180 [185] u)) (fun u ih => ?_) u
  refine ?_
  · intro h
    obtain ⟨f0, f1, f2, f3, rfl, p0, p1, p2, p3⟩ := inv_Evidence h
    exact toOEvidence_step p2 (toOInstanceRef_all p2) (toOEvidenceS_step p3.2 (fun a ha => (ih a (by have := nn_of_mem ha; simp only [U.nn, U.nns]; omega)) (p3.2 a ha)))
theorem toOEvidence_all {u : U} (h : wt (.st 18) u) : PToO 180 [185] u := (toOEvidence_grp u) h
theorem toOEvidenceS_all {us : List U} (h : us.length ≤ big ∧ ∀ x ∈ us, wt (.st 18) x) : PToO 148 [185] (.sl 5 us) := toOEvidenceS_step h.2 (fun a ha => toOEvidence_all (h.2 a ha))
theorem zt_CoreArm : ZeroT (.st [.s [], .sl 1 [], .st [.i .i64 0, .s [], .s [], .i .i64 0, .st [.i .i64 0, .s [], .sl 3 []], .sl 3 [], .sl 5 [], .sl 11 [], .sl 13 []]]) [.string ⟨#[]⟩, .slice none 0 0, .int .i64 0, .string ⟨#[]⟩, .string ⟨#[]⟩, .int .i64 0, .int .i64 0, .string ⟨#[]⟩, .slice none 0 0, .slice none 0 0, .slice none 0 0, .slice none 0 0, .slice none 0 0] := zeroT (by repeat constructor) (by repeat constructor)
set_option maxHeartbeats 4000000 in
theorem toOCoreArmS_step {us : List U} (hz : ∀ a ∈ us, wt (.st 20) a) (ih : ∀ a ∈ us, PToO 181 [9, 84, 84, 185, 100, 187] a) : PToO 150 [187] (.sl 13 us) := by
  intro hw
  have hW : W (.sl 13 us) = us.length + Ws us := rfl
  refine SpecO_intro Tryz.func150 rfl (by kernel_rfl) rfl (by simp) fun A _ => ?_
  refine gGO ?_
  refine VR_make rfl rfl TE.h TI.h TZ.h rfl zt_CoreArm (by omega) (by omega) (by rw [big_eq]; omega) (by omega) rfl (by repeat constructor) ?_
  rw [Int.toNat_natCast, fillU_zero]
  refine gGO ?_
  refine V_block ?_
  refine V_loop (α := Nat)
    (fun k => ⟨[(0, .d (.sl 13 us)), (3, .sl 0 0), (4, .d (.i .i64 k))], [.own 187 13 0 (fillU us (.st [.s [], .sl 1 [], .st [.i .i64 0, .s [], .s [], .i .i64 0, .st [.i .i64 0, .s [], .sl 3 []], .sl 3 [], .sl 5 [], .sl 11 [], .sl 13 []]]) k)], Tryz.f150.ntmps⟩)
    (fun k => k ≤ us.length)
    (fun k => us.length - k) 0 ⟨rfl, ⟨⟨rfl, rfl⟩, ⟨rfl, rfl⟩, ⟨rfl, rfl⟩, trivial⟩, ⟨[], rfl⟩, rfl⟩ (by simp) ?_
  intro k hk
  refine gGO ?_
  (first | refine V_cond rfl (fun hc2 => ?_) (fun hc2 => ?_) | refine V_seq (V_cond rfl (fun hc2 => ?_) (fun hc2 => ?_)))
  · refine V_skip ?_
    simp only [decide_eq_true_eq] at hc2
    have hkl : k < us.length := by omega
    obtain ⟨a, hget⟩ : ∃ a, us[k]? = some a := ⟨_, List.getElem?_eq_getElem hkl⟩
    have hmem := List.mem_of_getElem? hget
    have hwk := W_le_of_mem hmem
    have hfl : (fillU us (.st [.s [], .sl 1 [], .st [.i .i64 0, .s [], .s [], .i .i64 0, .st [.i .i64 0, .s [], .sl 3 []], .sl 3 [], .sl 5 [], .sl 11 [], .sl 13 []]]) k).length = us.length := fillU_length hk
    have hset := fillU_set (zu := .st [.s [], .sl 1 [], .st [.i .i64 0, .s [], .s [], .i .i64 0, .st [.i .i64 0, .s [], .sl 3 []], .sl 3 [], .sl 5 [], .sl 11 [], .sl 13 []]]) hget
    have hcall := ih a hmem (by omega)
    have hwa := hz a hmem
    obtain ⟨a_0, a_1, a_2, rfl, hwa_0, hwa_1, hwa_2⟩ := inv_CoreArm hwa
    obtain ⟨a_2_0, a_2_1, a_2_2, a_2_3, a_2_4, a_2_5, a_2_6, a_2_7, a_2_8, rfl, hwa_2_0, hwa_2_1, hwa_2_2, hwa_2_3, hwa_2_4, hwa_2_5, hwa_2_6, hwa_2_7, hwa_2_8⟩ := inv_Core hwa_2
    obtain ⟨a_2_4_0, a_2_4_1, a_2_4_2, rfl, hwa_2_4_0, hwa_2_4_1, hwa_2_4_2⟩ := inv_Type hwa_2_4
    refine V_seq (V_block ?_)
    repeat (first | refine gGP ?_ | refine qO (Q_index rfl rfl TE.h TI.h (by omega) hget) ?_ | refine qQ (Q_index rfl rfl TE.h TI.h (by omega) hget) ?_ | refine qO (Q_index_own rfl rfl .own rfl TE.h TI.h (by omega) (by omega)) ?_ | refine qQ (Q_index_own rfl rfl .own rfl TE.h TI.h (by omega) (by omega)) ?_)
    refine VO_callO rfl hcall vA (by repeat constructor) (by repeat (first | exact rfl | constructor)) (by repeat constructor) rfl ?_
    repeat (first | refine gGP ?_ | refine qO (Q_index rfl rfl TE.h TI.h (by omega) hget) ?_ | refine qQ (Q_index rfl rfl TE.h TI.h (by omega) hget) ?_ | refine qO (Q_index_own rfl rfl .own rfl TE.h TI.h (by omega) (by omega)) ?_ | refine qQ (Q_index_own rfl rfl .own rfl TE.h TI.h (by omega) (by omega)) ?_)
    refine VR_store (u := .st [.s a_0, .sl 1 a_1, .st [.i .i64 a_2_0, .s a_2_1, .s a_2_2, .i .i64 a_2_3, .st [.i .i64 a_2_4_0, .s a_2_4_1, .sl 3 a_2_4_2], .sl 3 a_2_5, .sl 5 a_2_6, .sl 11 a_2_7, .sl 13 a_2_8]]) rfl rfl (by repeat (first | exact rfl | constructor)) (by decide) TI.h rfl (by omega) (by repeat constructor) (by repeat constructor) ?_
    rw [Int.toNat_natCast, hset]
    refine gGO ?_
    refine ⟨k + 1, by omega, by omega, ⟨rfl, ⟨⟨rfl, rfl⟩, ⟨rfl, rfl⟩, ⟨rfl, rfl⟩, trivial⟩, ⟨_, rfl⟩, rfl⟩⟩
  · refine V_exit ?_
    simp only [decide_eq_false_iff_not] at hc2
    have hkl : k = us.length := by omega
    subst hkl
    show V _ _ _ _ _
    refine gGO ?_
    refine V_cast [.own 187 13 0 us] (by rw [fillU_all]) ?_
    refine V_ret ?_
    exact ⟨trivial, _, (by repeat (first | exact rfl | exact ResV_ag rfl rfl TI.h rfl rfl | exact ResV_one rfl rfl TI.h rfl | constructor)), by decide⟩
theorem zt_Core : ZeroT (.st [.i .i64 0, .s [], .s [], .i .i64 0, .st [.i .i64 0, .s [], .sl 3 []], .sl 3 [], .sl 5 [], .sl 11 [], .sl 13 []]) [.int .i64 0, .string ⟨#[]⟩, .string ⟨#[]⟩, .int .i64 0, .int .i64 0, .string ⟨#[]⟩, .slice none 0 0, .slice none 0 0, .slice none 0 0, .slice none 0 0, .slice none 0 0] := zeroT (by repeat constructor) (by repeat constructor)
set_option maxHeartbeats 4000000 in
theorem toOCoreS_step {us : List U} (hz : ∀ a ∈ us, wt (.st 21) a) (ih : ∀ a ∈ us, PToO 92 [84, 84, 185, 100, 187] a) : PToO 149 [100] (.sl 11 us) := by
  intro hw
  have hW : W (.sl 11 us) = us.length + Ws us := rfl
  refine SpecO_intro Tryz.func149 rfl (by kernel_rfl) rfl (by simp) fun A _ => ?_
  refine gGO ?_
  refine VR_make rfl rfl TE.h TI.h TZ.h rfl zt_Core (by omega) (by omega) (by rw [big_eq]; omega) (by omega) rfl (by repeat constructor) ?_
  rw [Int.toNat_natCast, fillU_zero]
  refine gGO ?_
  refine V_block ?_
  refine V_loop (α := Nat)
    (fun k => ⟨[(0, .d (.sl 11 us)), (3, .sl 0 0), (4, .d (.i .i64 k))], [.own 100 11 0 (fillU us (.st [.i .i64 0, .s [], .s [], .i .i64 0, .st [.i .i64 0, .s [], .sl 3 []], .sl 3 [], .sl 5 [], .sl 11 [], .sl 13 []]) k)], Tryz.f149.ntmps⟩)
    (fun k => k ≤ us.length)
    (fun k => us.length - k) 0 ⟨rfl, ⟨⟨rfl, rfl⟩, ⟨rfl, rfl⟩, ⟨rfl, rfl⟩, trivial⟩, ⟨[], rfl⟩, rfl⟩ (by simp) ?_
  intro k hk
  refine gGO ?_
  (first | refine V_cond rfl (fun hc2 => ?_) (fun hc2 => ?_) | refine V_seq (V_cond rfl (fun hc2 => ?_) (fun hc2 => ?_)))
  · refine V_skip ?_
    simp only [decide_eq_true_eq] at hc2
    have hkl : k < us.length := by omega
    obtain ⟨a, hget⟩ : ∃ a, us[k]? = some a := ⟨_, List.getElem?_eq_getElem hkl⟩
    have hmem := List.mem_of_getElem? hget
    have hwk := W_le_of_mem hmem
    have hfl : (fillU us (.st [.i .i64 0, .s [], .s [], .i .i64 0, .st [.i .i64 0, .s [], .sl 3 []], .sl 3 [], .sl 5 [], .sl 11 [], .sl 13 []]) k).length = us.length := fillU_length hk
    have hset := fillU_set (zu := .st [.i .i64 0, .s [], .s [], .i .i64 0, .st [.i .i64 0, .s [], .sl 3 []], .sl 3 [], .sl 5 [], .sl 11 [], .sl 13 []]) hget
    have hcall := ih a hmem (by omega)
    have hwa := hz a hmem
    obtain ⟨a_0, a_1, a_2, a_3, a_4, a_5, a_6, a_7, a_8, rfl, hwa_0, hwa_1, hwa_2, hwa_3, hwa_4, hwa_5, hwa_6, hwa_7, hwa_8⟩ := inv_Core hwa
    obtain ⟨a_4_0, a_4_1, a_4_2, rfl, hwa_4_0, hwa_4_1, hwa_4_2⟩ := inv_Type hwa_4
    refine V_seq (V_block ?_)
    repeat (first | refine gGP ?_ | refine qO (Q_index rfl rfl TE.h TI.h (by omega) hget) ?_ | refine qQ (Q_index rfl rfl TE.h TI.h (by omega) hget) ?_ | refine qO (Q_index_own rfl rfl .own rfl TE.h TI.h (by omega) (by omega)) ?_ | refine qQ (Q_index_own rfl rfl .own rfl TE.h TI.h (by omega) (by omega)) ?_)
    refine VO_callO rfl hcall vA (by repeat constructor) (by repeat (first | exact rfl | constructor)) (by repeat constructor) rfl ?_
    repeat (first | refine gGP ?_ | refine qO (Q_index rfl rfl TE.h TI.h (by omega) hget) ?_ | refine qQ (Q_index rfl rfl TE.h TI.h (by omega) hget) ?_ | refine qO (Q_index_own rfl rfl .own rfl TE.h TI.h (by omega) (by omega)) ?_ | refine qQ (Q_index_own rfl rfl .own rfl TE.h TI.h (by omega) (by omega)) ?_)
    refine VR_store (u := .st [.i .i64 a_0, .s a_1, .s a_2, .i .i64 a_3, .st [.i .i64 a_4_0, .s a_4_1, .sl 3 a_4_2], .sl 3 a_5, .sl 5 a_6, .sl 11 a_7, .sl 13 a_8]) rfl rfl (by repeat (first | exact rfl | constructor)) (by decide) TI.h rfl (by omega) (by repeat constructor) (by repeat constructor) ?_
    rw [Int.toNat_natCast, hset]
    refine gGO ?_
    refine ⟨k + 1, by omega, by omega, ⟨rfl, ⟨⟨rfl, rfl⟩, ⟨rfl, rfl⟩, ⟨rfl, rfl⟩, trivial⟩, ⟨_, rfl⟩, rfl⟩⟩
  · refine V_exit ?_
    simp only [decide_eq_false_iff_not] at hc2
    have hkl : k = us.length := by omega
    subst hkl
    show V _ _ _ _ _
    refine gGO ?_
    refine V_cast [.own 100 11 0 us] (by rw [fillU_all]) ?_
    refine V_ret ?_
    exact ⟨trivial, _, (by repeat (first | exact rfl | exact ResV_ag rfl rfl TI.h rfl rfl | exact ResV_one rfl rfl TI.h rfl | constructor)), by decide⟩
set_option maxHeartbeats 4000000 in
theorem toOCoreArm_step {f0 : List UInt8} {f1 : List U} {f2 : U} (h0 : f0.length ≤ big) (h1 : PToO 88 [9] (.sl 1 f1)) (g2 : wt (.st 21) f2) (h2 : PToO 92 [84, 84, 185, 100, 187] f2) : PToO 181 [9, 84, 84, 185, 100, 187] (.st [.s f0, .sl 1 f1, f2]) := by
  intro hw
  have hW : W (.st [.s f0, .sl 1 f1, f2]) = f0.length + (W (U.sl 1 f1) + (W f2 + 0)) := rfl
  have c1 := h1 (by omega)
  clear h1
  have c2 := h2 (by omega)
  clear h2
  clear hW hw
  obtain ⟨f2_0, f2_1, f2_2, f2_3, f2_4, f2_5, f2_6, f2_7, f2_8, rfl, g2_0, g2_1, g2_2, g2_3, g2_4, g2_5, g2_6, g2_7, g2_8⟩ := inv_Core g2
  obtain ⟨f2_4_0, f2_4_1, f2_4_2, rfl, g2_4_0, g2_4_1, g2_4_2⟩ := inv_Type g2_4
  refine SpecO_intro Tryz.func181 rfl (by kernel_rfl) rfl (by simp) fun A _ => ?_
  refine gGO ?_
  refine VO_callO rfl c1 vA (by repeat constructor) (by repeat (first | exact rfl | constructor)) (by repeat constructor) rfl ?_
  refine gGO ?_
  refine VO_callO rfl c2 vA (by repeat constructor) (by repeat (first | exact rfl | constructor)) (by repeat constructor) rfl ?_
  refine gGO ?_
  refine V_ret ?_
  exact ⟨trivial, _, (by repeat (first | exact rfl | exact ResV_ag rfl rfl TI.h rfl rfl | exact ResV_one rfl rfl TI.h rfl | constructor)), by decide⟩
set_option maxHeartbeats 4000000 in
theorem toOCore_step {f0 : Int} {f1 : List UInt8} {f2 : List UInt8} {f3 : Int} {f4 : U} {f5 : List U} {f6 : List U} {f7 : List U} {f8 : List U} (h1 : f1.length ≤ big) (h2 : f2.length ≤ big) (g4 : wt (.st 1) f4) (h4 : PToO 91 [84] f4) (h5 : PToO 147 [84] (.sl 3 f5)) (h6 : PToO 148 [185] (.sl 5 f6)) (h7 : PToO 149 [100] (.sl 11 f7)) (h8 : PToO 150 [187] (.sl 13 f8)) : PToO 92 [84, 84, 185, 100, 187] (.st [.i .i64 f0, .s f1, .s f2, .i .i64 f3, f4, .sl 3 f5, .sl 5 f6, .sl 11 f7, .sl 13 f8]) := by
  intro hw
  have hW : W (.st [.i .i64 f0, .s f1, .s f2, .i .i64 f3, f4, .sl 3 f5, .sl 5 f6, .sl 11 f7, .sl 13 f8]) = 0 + (f1.length + (f2.length + (0 + (W f4 + (W (U.sl 3 f5) + (W (U.sl 5 f6) + (W (U.sl 11 f7) + (W (U.sl 13 f8) + 0)))))))) := rfl
  have c4 := h4 (by omega)
  clear h4
  have c5 := h5 (by omega)
  clear h5
  have c6 := h6 (by omega)
  clear h6
  have c7 := h7 (by omega)
  clear h7
  have c8 := h8 (by omega)
  clear h8
  clear hW hw
  obtain ⟨f4_0, f4_1, f4_2, rfl, g4_0, g4_1, g4_2⟩ := inv_Type g4
  refine SpecO_intro Tryz.func92 rfl (by kernel_rfl) rfl (by simp) fun A _ => ?_
  refine gGO ?_
  refine VO_callO rfl c4 vA (by repeat constructor) (by repeat (first | exact rfl | constructor)) (by repeat constructor) rfl ?_
  refine gGO ?_
  refine VO_callO rfl c5 vA (by repeat constructor) (by repeat (first | exact rfl | constructor)) (by repeat constructor) rfl ?_
  refine gGO ?_
  refine VO_callO rfl c6 vA (by repeat constructor) (by repeat (first | exact rfl | constructor)) (by repeat constructor) rfl ?_
  refine gGO ?_
  refine VO_callO rfl c7 vA (by repeat constructor) (by repeat (first | exact rfl | constructor)) (by repeat constructor) rfl ?_
  refine gGO ?_
  refine VO_callO rfl c8 vA (by repeat constructor) (by repeat (first | exact rfl | constructor)) (by repeat constructor) rfl ?_
  refine gGO ?_
  refine V_ret ?_
  exact ⟨trivial, _, (by repeat (first | exact rfl | exact ResV_ag rfl rfl TI.h rfl rfl | exact ResV_one rfl rfl TI.h rfl | constructor)), by decide⟩
theorem toOCoreArmCore_grp (u : U) : (wt (.st 20) u → PToO 181 [9, 84, 84, 185, 100, 187] u) ∧ (wt (.st 21) u → PToO 92 [84, 84, 185, 100, 187] u) := by
  refine U.ind (M := fun u => (wt (.st 20) u → PToO 181 [9, 84, 84, 185, 100, 187] u) ∧ (wt (.st 21) u → PToO 92 [84, 84, 185, 100, 187] u)) (fun u ih => ?_) u
  refine ⟨?_, ?_⟩
  · intro h
    obtain ⟨f0, f1, f2, rfl, p0, p1, p2⟩ := inv_CoreArm h
    exact toOCoreArm_step p0 (toOStringS_all p1) p2 ((ih f2 (by simp only [U.nn, U.nns]; omega)).2 p2)
  · intro h
    obtain ⟨f0, f1, f2, f3, f4, f5, f6, f7, f8, rfl, p0, p1, p2, p3, p4, p5, p6, p7, p8⟩ := inv_Core h
    exact toOCore_step p1 p2 p4 (toOType_all p4) (toOTypeS_all p5) (toOEvidenceS_all p6) (toOCoreS_step p7.2 (fun a ha => (ih a (by have := nn_of_mem ha; simp only [U.nn, U.nns]; omega)).2 (p7.2 a ha))) (toOCoreArmS_step p8.2 (fun a ha => (ih a (by have := nn_of_mem ha; simp only [U.nn, U.nns]; omega)).1 (p8.2 a ha)))
theorem toOCore_all {u : U} (h : wt (.st 21) u) : PToO 92 [84, 84, 185, 100, 187] u := (toOCoreArmCore_grp u).2 h
theorem zt_Unit : ZeroT (.st [.i .i64 0, .i .i64 0, .i .i64 0, .i .i64 0, .sl 1 [], .sl 4 [], .sl 4 [], .st [.i .i64 0, .s [], .sl 3 []], .st [.i .i64 0, .s [], .s [], .i .i64 0, .st [.i .i64 0, .s [], .sl 3 []], .sl 3 [], .sl 5 [], .sl 11 [], .sl 13 []]]) [.int .i64 0, .int .i64 0, .int .i64 0, .int .i64 0, .slice none 0 0, .slice none 0 0, .slice none 0 0, .int .i64 0, .string ⟨#[]⟩, .slice none 0 0, .int .i64 0, .string ⟨#[]⟩, .string ⟨#[]⟩, .int .i64 0, .int .i64 0, .string ⟨#[]⟩, .slice none 0 0, .slice none 0 0, .slice none 0 0, .slice none 0 0, .slice none 0 0] := zeroT (by repeat constructor) (by repeat constructor)
set_option maxHeartbeats 4000000 in
theorem toOUnitS_step {us : List U} (hz : ∀ a ∈ us, wt (.st 25) a) (ih : ∀ a ∈ us, PToO 42 [9, 180, 182, 84, 84, 84, 185, 100, 187] a) : PToO 15 [102] (.sl 21 us) := by
  intro hw
  have hW : W (.sl 21 us) = us.length + Ws us := rfl
  refine SpecO_intro Tryz.func15 rfl (by kernel_rfl) rfl (by simp) fun A _ => ?_
  refine gGO ?_
  refine VR_make rfl rfl TE.h TI.h TZ.h rfl zt_Unit (by omega) (by omega) (by rw [big_eq]; omega) (by omega) rfl (by repeat constructor) ?_
  rw [Int.toNat_natCast, fillU_zero]
  refine gGO ?_
  refine V_block ?_
  refine V_loop (α := Nat)
    (fun k => ⟨[(0, .d (.sl 21 us)), (3, .sl 0 0), (4, .d (.i .i64 k))], [.own 102 21 0 (fillU us (.st [.i .i64 0, .i .i64 0, .i .i64 0, .i .i64 0, .sl 1 [], .sl 4 [], .sl 4 [], .st [.i .i64 0, .s [], .sl 3 []], .st [.i .i64 0, .s [], .s [], .i .i64 0, .st [.i .i64 0, .s [], .sl 3 []], .sl 3 [], .sl 5 [], .sl 11 [], .sl 13 []]]) k)], Tryz.f15.ntmps⟩)
    (fun k => k ≤ us.length)
    (fun k => us.length - k) 0 ⟨rfl, ⟨⟨rfl, rfl⟩, ⟨rfl, rfl⟩, ⟨rfl, rfl⟩, trivial⟩, ⟨[], rfl⟩, rfl⟩ (by simp) ?_
  intro k hk
  refine gGO ?_
  (first | refine V_cond rfl (fun hc2 => ?_) (fun hc2 => ?_) | refine V_seq (V_cond rfl (fun hc2 => ?_) (fun hc2 => ?_)))
  · refine V_skip ?_
    simp only [decide_eq_true_eq] at hc2
    have hkl : k < us.length := by omega
    obtain ⟨a, hget⟩ : ∃ a, us[k]? = some a := ⟨_, List.getElem?_eq_getElem hkl⟩
    have hmem := List.mem_of_getElem? hget
    have hwk := W_le_of_mem hmem
    have hfl : (fillU us (.st [.i .i64 0, .i .i64 0, .i .i64 0, .i .i64 0, .sl 1 [], .sl 4 [], .sl 4 [], .st [.i .i64 0, .s [], .sl 3 []], .st [.i .i64 0, .s [], .s [], .i .i64 0, .st [.i .i64 0, .s [], .sl 3 []], .sl 3 [], .sl 5 [], .sl 11 [], .sl 13 []]]) k).length = us.length := fillU_length hk
    have hset := fillU_set (zu := .st [.i .i64 0, .i .i64 0, .i .i64 0, .i .i64 0, .sl 1 [], .sl 4 [], .sl 4 [], .st [.i .i64 0, .s [], .sl 3 []], .st [.i .i64 0, .s [], .s [], .i .i64 0, .st [.i .i64 0, .s [], .sl 3 []], .sl 3 [], .sl 5 [], .sl 11 [], .sl 13 []]]) hget
    have hcall := ih a hmem (by omega)
    have hwa := hz a hmem
    obtain ⟨a_0, a_1, a_2, a_3, a_4, a_5, a_6, a_7, a_8, rfl, hwa_0, hwa_1, hwa_2, hwa_3, hwa_4, hwa_5, hwa_6, hwa_7, hwa_8⟩ := inv_Unit hwa
    obtain ⟨a_7_0, a_7_1, a_7_2, rfl, hwa_7_0, hwa_7_1, hwa_7_2⟩ := inv_Type hwa_7
    obtain ⟨a_8_0, a_8_1, a_8_2, a_8_3, a_8_4, a_8_5, a_8_6, a_8_7, a_8_8, rfl, hwa_8_0, hwa_8_1, hwa_8_2, hwa_8_3, hwa_8_4, hwa_8_5, hwa_8_6, hwa_8_7, hwa_8_8⟩ := inv_Core hwa_8
    obtain ⟨a_8_4_0, a_8_4_1, a_8_4_2, rfl, hwa_8_4_0, hwa_8_4_1, hwa_8_4_2⟩ := inv_Type hwa_8_4
    refine V_seq (V_block ?_)
    repeat (first | refine gGP ?_ | refine qO (Q_index rfl rfl TE.h TI.h (by omega) hget) ?_ | refine qQ (Q_index rfl rfl TE.h TI.h (by omega) hget) ?_ | refine qO (Q_index_own rfl rfl .own rfl TE.h TI.h (by omega) (by omega)) ?_ | refine qQ (Q_index_own rfl rfl .own rfl TE.h TI.h (by omega) (by omega)) ?_)
    refine VO_callO rfl hcall vA (by repeat constructor) (by repeat (first | exact rfl | constructor)) (by repeat constructor) rfl ?_
    repeat (first | refine gGP ?_ | refine qO (Q_index rfl rfl TE.h TI.h (by omega) hget) ?_ | refine qQ (Q_index rfl rfl TE.h TI.h (by omega) hget) ?_ | refine qO (Q_index_own rfl rfl .own rfl TE.h TI.h (by omega) (by omega)) ?_ | refine qQ (Q_index_own rfl rfl .own rfl TE.h TI.h (by omega) (by omega)) ?_)
    refine VR_store (u := .st [.i .i64 a_0, .i .i64 a_1, .i .i64 a_2, .i .i64 a_3, .sl 1 a_4, .sl 4 a_5, .sl 4 a_6, .st [.i .i64 a_7_0, .s a_7_1, .sl 3 a_7_2], .st [.i .i64 a_8_0, .s a_8_1, .s a_8_2, .i .i64 a_8_3, .st [.i .i64 a_8_4_0, .s a_8_4_1, .sl 3 a_8_4_2], .sl 3 a_8_5, .sl 5 a_8_6, .sl 11 a_8_7, .sl 13 a_8_8]]) rfl rfl (by repeat (first | exact rfl | constructor)) (by decide) TI.h rfl (by omega) (by repeat constructor) (by repeat constructor) ?_
    rw [Int.toNat_natCast, hset]
    refine gGO ?_
    refine ⟨k + 1, by omega, by omega, ⟨rfl, ⟨⟨rfl, rfl⟩, ⟨rfl, rfl⟩, ⟨rfl, rfl⟩, trivial⟩, ⟨_, rfl⟩, rfl⟩⟩
  · refine V_exit ?_
    simp only [decide_eq_false_iff_not] at hc2
    have hkl : k = us.length := by omega
    subst hkl
    show V _ _ _ _ _
    refine gGO ?_
    refine V_cast [.own 102 21 0 us] (by rw [fillU_all]) ?_
    refine V_ret ?_
    exact ⟨trivial, _, (by repeat (first | exact rfl | exact ResV_ag rfl rfl TI.h rfl rfl | exact ResV_one rfl rfl TI.h rfl | constructor)), by decide⟩
set_option maxHeartbeats 4000000 in
theorem toOUnit_step {f0 : Int} {f1 : Int} {f2 : Int} {f3 : Int} {f4 : List U} {f5 : List U} {f6 : List U} {f7 : U} {f8 : U} (h4 : PToO 88 [9] (.sl 1 f4)) (h5 : PToO 89 [180] (.sl 4 f5)) (h6 : PToO 90 [182] (.sl 4 f6)) (g7 : wt (.st 1) f7) (h7 : PToO 91 [84] f7) (g8 : wt (.st 21) f8) (h8 : PToO 92 [84, 84, 185, 100, 187] f8) : PToO 42 [9, 180, 182, 84, 84, 84, 185, 100, 187] (.st [.i .i64 f0, .i .i64 f1, .i .i64 f2, .i .i64 f3, .sl 1 f4, .sl 4 f5, .sl 4 f6, f7, f8]) := by
  intro hw
  have hW : W (.st [.i .i64 f0, .i .i64 f1, .i .i64 f2, .i .i64 f3, .sl 1 f4, .sl 4 f5, .sl 4 f6, f7, f8]) = 0 + (0 + (0 + (0 + (W (U.sl 1 f4) + (W (U.sl 4 f5) + (W (U.sl 4 f6) + (W f7 + (W f8 + 0)))))))) := rfl
  have c4 := h4 (by omega)
  clear h4
  have c5 := h5 (by omega)
  clear h5
  have c6 := h6 (by omega)
  clear h6
  have c7 := h7 (by omega)
  clear h7
  have c8 := h8 (by omega)
  clear h8
  clear hW hw
  obtain ⟨f7_0, f7_1, f7_2, rfl, g7_0, g7_1, g7_2⟩ := inv_Type g7
  obtain ⟨f8_0, f8_1, f8_2, f8_3, f8_4, f8_5, f8_6, f8_7, f8_8, rfl, g8_0, g8_1, g8_2, g8_3, g8_4, g8_5, g8_6, g8_7, g8_8⟩ := inv_Core g8
  obtain ⟨f8_4_0, f8_4_1, f8_4_2, rfl, g8_4_0, g8_4_1, g8_4_2⟩ := inv_Type g8_4
  refine SpecO_intro Tryz.func42 rfl (by kernel_rfl) rfl (by simp) fun A _ => ?_
  refine gGO ?_
  refine VO_callO rfl c4 vA (by repeat constructor) (by repeat (first | exact rfl | constructor)) (by repeat constructor) rfl ?_
  refine gGO ?_
  refine VO_callO rfl c5 vA (by repeat constructor) (by repeat (first | exact rfl | constructor)) (by repeat constructor) rfl ?_
  refine gGO ?_
  refine VO_callO rfl c6 vA (by repeat constructor) (by repeat (first | exact rfl | constructor)) (by repeat constructor) rfl ?_
  refine gGO ?_
  refine VO_callO rfl c7 vA (by repeat constructor) (by repeat (first | exact rfl | constructor)) (by repeat constructor) rfl ?_
  refine gGO ?_
  refine VO_callO rfl c8 vA (by repeat constructor) (by repeat (first | exact rfl | constructor)) (by repeat constructor) rfl ?_
  refine gGO ?_
  refine V_ret ?_
  exact ⟨trivial, _, (by repeat (first | exact rfl | exact ResV_ag rfl rfl TI.h rfl rfl | exact ResV_one rfl rfl TI.h rfl | constructor)), by decide⟩
theorem toOUnit_grp (u : U) : (wt (.st 25) u → PToO 42 [9, 180, 182, 84, 84, 84, 185, 100, 187] u) := by
  refine U.ind (M := fun u => (wt (.st 25) u → PToO 42 [9, 180, 182, 84, 84, 84, 185, 100, 187] u)) (fun u ih => ?_) u
  refine ?_
  · intro h
    obtain ⟨f0, f1, f2, f3, f4, f5, f6, f7, f8, rfl, p0, p1, p2, p3, p4, p5, p6, p7, p8⟩ := inv_Unit h
    exact toOUnit_step (toOStringS_all p4) (toOBoundS_all p5) (toOParamS_all p6) p7 (toOType_all p7) p8 (toOCore_all p8)
theorem toOUnit_all {u : U} (h : wt (.st 25) u) : PToO 42 [9, 180, 182, 84, 84, 84, 185, 100, 187] u := (toOUnit_grp u) h
theorem toOUnitS_all {us : List U} (h : us.length ≤ big ∧ ∀ x ∈ us, wt (.st 25) x) : PToO 15 [102] (.sl 21 us) := toOUnitS_step h.2 (fun a ha => toOUnit_all (h.2 a ha))
theorem zt_Int : ZeroT (.i .i64 0) [.int .i64 0] := zeroT (by repeat constructor) (by repeat constructor)
set_option maxHeartbeats 4000000 in
theorem toOIntS_step {us : List U} (hz : ∀ a ∈ us, wt (.int) a) : PToO 44 [3] (.sl 1 us) := by
  intro hw
  have hW : W (.sl 1 us) = us.length + Ws us := rfl
  refine SpecO_intro Tryz.func44 rfl (by kernel_rfl) rfl (by simp) fun A _ => ?_
  refine gGO ?_
  refine VR_make rfl rfl TE.h TI.h TZ.h rfl zt_Int (by omega) (by omega) (by rw [big_eq]; omega) (by omega) rfl (by repeat constructor) ?_
  rw [Int.toNat_natCast, fillU_zero]
  refine gGO ?_
  refine V_block ?_
  refine V_loop (α := Nat)
    (fun k => ⟨[(0, .d (.sl 1 us)), (3, .sl 0 0), (4, .d (.i .i64 k))], [.own 3 1 0 (fillU us (.i .i64 0) k)], Tryz.f44.ntmps⟩)
    (fun k => k ≤ us.length)
    (fun k => us.length - k) 0 ⟨rfl, ⟨⟨rfl, rfl⟩, ⟨rfl, rfl⟩, ⟨rfl, rfl⟩, trivial⟩, ⟨[], rfl⟩, rfl⟩ (by simp) ?_
  intro k hk
  refine gGO ?_
  (first | refine V_cond rfl (fun hc2 => ?_) (fun hc2 => ?_) | refine V_seq (V_cond rfl (fun hc2 => ?_) (fun hc2 => ?_)))
  · refine V_skip ?_
    simp only [decide_eq_true_eq] at hc2
    have hkl : k < us.length := by omega
    obtain ⟨a, hget⟩ : ∃ a, us[k]? = some a := ⟨_, List.getElem?_eq_getElem hkl⟩
    have hmem := List.mem_of_getElem? hget
    have hwk := W_le_of_mem hmem
    have hfl : (fillU us (.i .i64 0) k).length = us.length := fillU_length hk
    have hset := fillU_set (zu := .i .i64 0) hget
    obtain ⟨n, rfl, _⟩ := inv_int (hz a hmem)
    refine V_seq (V_block ?_)
    repeat (first | refine gGP ?_ | refine qO (Q_index rfl rfl TE.h TI.h (by omega) hget) ?_ | refine qQ (Q_index rfl rfl TE.h TI.h (by omega) hget) ?_ | refine qO (Q_index_own rfl rfl .own rfl TE.h TI.h (by omega) (by omega)) ?_ | refine qQ (Q_index_own rfl rfl .own rfl TE.h TI.h (by omega) (by omega)) ?_)
    refine VR_store (u := .i .i64 n) rfl rfl (by repeat (first | exact rfl | constructor)) (by decide) TI.h rfl (by omega) (by repeat constructor) (by repeat constructor) ?_
    rw [Int.toNat_natCast, hset]
    refine gGO ?_
    refine ⟨k + 1, by omega, by omega, ⟨rfl, ⟨⟨rfl, rfl⟩, ⟨rfl, rfl⟩, ⟨rfl, rfl⟩, trivial⟩, ⟨_, rfl⟩, rfl⟩⟩
  · refine V_exit ?_
    simp only [decide_eq_false_iff_not] at hc2
    have hkl : k = us.length := by omega
    subst hkl
    show V _ _ _ _ _
    refine gGO ?_
    refine V_cast [.own 3 1 0 us] (by rw [fillU_all]) ?_
    refine V_ret ?_
    exact ⟨trivial, _, (by repeat (first | exact rfl | exact ResV_ag rfl rfl TI.h rfl rfl | exact ResV_one rfl rfl TI.h rfl | constructor)), by decide⟩
theorem toOIntS_all {us : List U} (h : us.length ≤ big ∧ ∀ x ∈ us, wt .int x) : PToO 44 [3] (.sl 1 us) := toOIntS_step h.2
theorem zt_Dictionary : ZeroT (.st [.i .i64 0, .st [.i .i64 0, .i .i64 0], .sl 1 [], .sl 5 []]) [.int .i64 0, .int .i64 0, .int .i64 0, .slice none 0 0, .slice none 0 0] := zeroT (by repeat constructor) (by repeat constructor)
set_option maxHeartbeats 4000000 in
theorem toODictionaryS_step {us : List U} (hz : ∀ a ∈ us, wt (.st 26) a) (ih : ∀ a ∈ us, PToO 16 [3, 50] a) : PToO 45 [50] (.sl 5 us) := by
  intro hw
  have hW : W (.sl 5 us) = us.length + Ws us := rfl
  refine SpecO_intro Tryz.func45 rfl (by kernel_rfl) rfl (by simp) fun A _ => ?_
  refine gGO ?_
  refine VR_make rfl rfl TE.h TI.h TZ.h rfl zt_Dictionary (by omega) (by omega) (by rw [big_eq]; omega) (by omega) rfl (by repeat constructor) ?_
  rw [Int.toNat_natCast, fillU_zero]
  refine gGO ?_
  refine V_block ?_
  refine V_loop (α := Nat)
    (fun k => ⟨[(0, .d (.sl 5 us)), (3, .sl 0 0), (4, .d (.i .i64 k))], [.own 50 5 0 (fillU us (.st [.i .i64 0, .st [.i .i64 0, .i .i64 0], .sl 1 [], .sl 5 []]) k)], Tryz.f45.ntmps⟩)
    (fun k => k ≤ us.length)
    (fun k => us.length - k) 0 ⟨rfl, ⟨⟨rfl, rfl⟩, ⟨rfl, rfl⟩, ⟨rfl, rfl⟩, trivial⟩, ⟨[], rfl⟩, rfl⟩ (by simp) ?_
  intro k hk
  refine gGO ?_
  (first | refine V_cond rfl (fun hc2 => ?_) (fun hc2 => ?_) | refine V_seq (V_cond rfl (fun hc2 => ?_) (fun hc2 => ?_)))
  · refine V_skip ?_
    simp only [decide_eq_true_eq] at hc2
    have hkl : k < us.length := by omega
    obtain ⟨a, hget⟩ : ∃ a, us[k]? = some a := ⟨_, List.getElem?_eq_getElem hkl⟩
    have hmem := List.mem_of_getElem? hget
    have hwk := W_le_of_mem hmem
    have hfl : (fillU us (.st [.i .i64 0, .st [.i .i64 0, .i .i64 0], .sl 1 [], .sl 5 []]) k).length = us.length := fillU_length hk
    have hset := fillU_set (zu := .st [.i .i64 0, .st [.i .i64 0, .i .i64 0], .sl 1 [], .sl 5 []]) hget
    have hcall := ih a hmem (by omega)
    have hwa := hz a hmem
    obtain ⟨a_0, a_1, a_2, a_3, rfl, hwa_0, hwa_1, hwa_2, hwa_3⟩ := inv_Dictionary hwa
    obtain ⟨a_1_0, a_1_1, rfl, hwa_1_0, hwa_1_1⟩ := inv_InstanceRef hwa_1
    refine V_seq (V_block ?_)
    repeat (first | refine gGP ?_ | refine qO (Q_index rfl rfl TE.h TI.h (by omega) hget) ?_ | refine qQ (Q_index rfl rfl TE.h TI.h (by omega) hget) ?_ | refine qO (Q_index_own rfl rfl .own rfl TE.h TI.h (by omega) (by omega)) ?_ | refine qQ (Q_index_own rfl rfl .own rfl TE.h TI.h (by omega) (by omega)) ?_)
    refine VO_callO rfl hcall vA (by repeat constructor) (by repeat (first | exact rfl | constructor)) (by repeat constructor) rfl ?_
    repeat (first | refine gGP ?_ | refine qO (Q_index rfl rfl TE.h TI.h (by omega) hget) ?_ | refine qQ (Q_index rfl rfl TE.h TI.h (by omega) hget) ?_ | refine qO (Q_index_own rfl rfl .own rfl TE.h TI.h (by omega) (by omega)) ?_ | refine qQ (Q_index_own rfl rfl .own rfl TE.h TI.h (by omega) (by omega)) ?_)
    refine VR_store (u := .st [.i .i64 a_0, .st [.i .i64 a_1_0, .i .i64 a_1_1], .sl 1 a_2, .sl 5 a_3]) rfl rfl (by repeat (first | exact rfl | constructor)) (by decide) TI.h rfl (by omega) (by repeat constructor) (by repeat constructor) ?_
    rw [Int.toNat_natCast, hset]
    refine gGO ?_
    refine ⟨k + 1, by omega, by omega, ⟨rfl, ⟨⟨rfl, rfl⟩, ⟨rfl, rfl⟩, ⟨rfl, rfl⟩, trivial⟩, ⟨_, rfl⟩, rfl⟩⟩
  · refine V_exit ?_
    simp only [decide_eq_false_iff_not] at hc2
    have hkl : k = us.length := by omega
    subst hkl
    show V _ _ _ _ _
    refine gGO ?_
    refine V_cast [.own 50 5 0 us] (by rw [fillU_all]) ?_
    refine V_ret ?_
    exact ⟨trivial, _, (by repeat (first | exact rfl | exact ResV_ag rfl rfl TI.h rfl rfl | exact ResV_one rfl rfl TI.h rfl | constructor)), by decide⟩
set_option maxHeartbeats 4000000 in
theorem toODictionary_step {f0 : Int} {f1 : U} {f2 : List U} {f3 : List U} (g1 : wt (.st 16) f1) (h1 : PToO 43 [] f1) (h2 : PToO 44 [3] (.sl 1 f2)) (h3 : PToO 45 [50] (.sl 5 f3)) : PToO 16 [3, 50] (.st [.i .i64 f0, f1, .sl 1 f2, .sl 5 f3]) := by
  intro hw
  have hW : W (.st [.i .i64 f0, f1, .sl 1 f2, .sl 5 f3]) = 0 + (W f1 + (W (U.sl 1 f2) + (W (U.sl 5 f3) + 0))) := rfl
  have c1 := h1 (by omega)
  clear h1
  have c2 := h2 (by omega)
  clear h2
  have c3 := h3 (by omega)
  clear h3
  clear hW hw
  obtain ⟨f1_0, f1_1, rfl, g1_0, g1_1⟩ := inv_InstanceRef g1
  refine SpecO_intro Tryz.func16 rfl (by kernel_rfl) rfl (by simp) fun A _ => ?_
  refine gGO ?_
  refine VO_callO rfl c1 vA (by repeat constructor) (by repeat (first | exact rfl | constructor)) (by repeat constructor) rfl ?_
  refine gGO ?_
  refine VO_callO rfl c2 vA (by repeat constructor) (by repeat (first | exact rfl | constructor)) (by repeat constructor) rfl ?_
  refine gGO ?_
  refine VO_callO rfl c3 vA (by repeat constructor) (by repeat (first | exact rfl | constructor)) (by repeat constructor) rfl ?_
  refine gGO ?_
  refine V_ret ?_
  exact ⟨trivial, _, (by repeat (first | exact rfl | exact ResV_ag rfl rfl TI.h rfl rfl | exact ResV_one rfl rfl TI.h rfl | constructor)), by decide⟩
theorem toODictionary_grp (u : U) : (wt (.st 26) u → PToO 16 [3, 50] u) := by
  refine U.ind (M := fun u => (wt (.st 26) u → PToO 16 [3, 50] u)) (fun u ih => ?_) u
  refine ?_
  · intro h
    obtain ⟨f0, f1, f2, f3, rfl, p0, p1, p2, p3⟩ := inv_Dictionary h
    exact toODictionary_step p1 (toOInstanceRef_all p1) (toOIntS_all p2) (toODictionaryS_step p3.2 (fun a ha => (ih a (by have := nn_of_mem ha; simp only [U.nn, U.nns]; omega)) (p3.2 a ha)))
theorem toODictionary_all {u : U} (h : wt (.st 26) u) : PToO 16 [3, 50] u := (toODictionary_grp u) h
end Go.Proofs.YthojhakapbfbiaaGreat
