/- ResolveMethod of the program returns what the reference's returns, for all arguments (where they hold together at most 2^20 elements and letters; the law itself asks for no more), leaves its arguments unmodified and shares no memory with them. -/
import Derived.Test.YthojhakapbfbiaaGreatRows
import Derived.Test.YthojhakapbfbiaaGreatEng53
import Derived.Test.YthojhakapbfbiaaGreatRm3
import Derived.Test.YthojhakapbfbiaaGreatEng34
import Derived.WalkKit
import Derived.ProofKit
import Derived.OpenShut
import Derived.ShutString
import Derived.ChangeOld
import Derived.Below
set_option linter.unusedVariables false
set_option linter.unusedSimpArgs false
namespace Go.Proofs.YthojhakapbfbiaaGreat.lFnExactResolveMethod
open Go Go.Eng Go.ChangeShapes Go.WideShapes Go.ChangeAt Go.RowKit
open Go.ChangeMaps (open_string shut_string)
open Go.Proofs.YthojhakapbfbiaaGreat
section
attribute [local irreducible] V VO VQ VY Quiet SpecP SpecO MSpec
set_option maxHeartbeats 16000000 in
theorem walk {u0 u1 u2 u3 u4 : U} (w0 : wt (.st 15) u0) (w1 : wt (.sl (.st 25)) u1) (w2 : wt (.st 26) u2) (w3 : wt (.str) u3) (w4 : wt (.str) u4) : SpecP Tryz.prog 4 [.d u0, .d u1, .d u2, .d u3, .d u4] [.b true] := by
  have hlx0 := lf_le u0 _ w0
  have hs0 : ∀ l : Int, 0 ≤ l → l ≤ 4611686018427387904 → SpecP Tryz.prog 5 [.d u0, .d (.i .i64 l)] [.i .i64 (if (W u0 : Int) ≤ l then l - W u0 else -1)] := szProgram_all w0
  have ht0 : W u0 ≤ 1048576 → SpecO Tryz.prog 7 [.d u0] [128] [u0] := toOProgram_all w0
  have he0 := eqProgram_all w0 w0
  unfold PEq at he0
  rw [deq_self] at he0
  have hm0 := markProgram_all w0
  have hlx1 := lf_le u1 _ w1
  obtain ⟨us1, rfl, wl1, wa1⟩ := inv_sl w1
  replace hlx1 : (U.sl 21 us1).lf ≤ 64 * W (U.sl 21 us1) + 1 := hlx1
  have hs1 : ∀ l : Int, 0 ≤ l → l ≤ 4611686018427387904 → SpecP Tryz.prog 12 [.d (U.sl 21 us1), .d (.i .i64 l)] [.i .i64 (if (W (U.sl 21 us1) : Int) ≤ l then l - W (U.sl 21 us1) else -1)] := szUnitS_all ⟨wl1, wa1⟩
  have ht1 : W (U.sl 21 us1) ≤ 1048576 → SpecO Tryz.prog 15 [.d (U.sl 21 us1)] [102] [(U.sl 21 us1)] := toOUnitS_all ⟨wl1, wa1⟩
  have he1 := eqUnitS_all ⟨wl1, wa1⟩ ⟨wl1, wa1⟩
  unfold PEq at he1
  rw [deq_self] at he1
  have hm1 := markUnitS_all ⟨wl1, wa1⟩
  have hlx2 := lf_le u2 _ w2
  have hs2 : ∀ l : Int, 0 ≤ l → l ≤ 4611686018427387904 → SpecP Tryz.prog 13 [.d u2, .d (.i .i64 l)] [.i .i64 (if (W u2 : Int) ≤ l then l - W u2 else -1)] := szDictionary_all w2
  have ht2 : W u2 ≤ 1048576 → SpecO Tryz.prog 16 [.d u2] [3, 50] [u2] := toODictionary_all w2
  have he2 := eqDictionary_all w2 w2
  unfold PEq at he2
  rw [deq_self] at he2
  have hm2 := markDictionary_all w2
  obtain ⟨n3, rfl, rb3⟩ := inv_str w3
  obtain ⟨n4, rfl, rb4⟩ := inv_str w4
  obtain ⟨r0, r1, hwr1, hboth⟩ := bothRM (s := n3) (n := n4) w0 ⟨wl1, wa1⟩ w2
  rw [big_eq] at rb3
  rw [big_eq] at rb4
  have hlr1 := lf_le (.sl 5 r1) (.sl (.st 26)) ⟨rfl, hwr1.1, wta_iff.2 hwr1.2⟩
  have hre1 := eqDictionaryS_all hwr1 hwr1
  unfold PEq at hre1
  rw [deq_self] at hre1
  have hrm1 := markDictionaryS_all hwr1
  have hrh1 := heldDictionaryS_all hwr1
  generalize W u0 = m0 at hs0 ht0 hlx0 hboth
  generalize W (U.sl 21 us1) = m1 at hs1 ht1 hlx1 hboth
  generalize W u2 = m2 at hs2 ht2 hlx2 hboth
  obtain ⟨u0_0, rfl, w0_0⟩ := inv_Program w0
  obtain ⟨u2_0, u2_1, u2_2, u2_3, rfl, w2_0, w2_1, w2_2, w2_3⟩ := inv_Dictionary w2
  obtain ⟨u2_1_0, u2_1_1, rfl, w2_1_0, w2_1_1⟩ := inv_InstanceRef w2_1
  simp only [U.lf, U.lfs, U.sz, U.szs] at hlx0 hlx1 hlx2 hlr1
  refine SpecP_intro Tryz.func4 rfl (by kernel_rfl) rfl fun A _ => ?_
  repeat (first | refine VO_d ?_ | refine VQ_d ?_  | (first | refine VO_nil ?_ | refine VQ_nil ?_) | (first | refine V_seq_region ?_ | refine V_seq (V_seq_region ?_) | refine V_seq_draw tmix (by kernel_rfl) ?_ | refine V_seq (V_seq_draw tmix (by kernel_rfl) ?_) | refine V_region ?_ | refine V_draw tmix (by kernel_rfl) ?_))
  (first | refine V_cond rfl (fun hc => ?_) (fun hc => ?_) | refine V_seq (V_cond rfl (fun hc => ?_) (fun hc => ?_)))
  · repeat (first | refine VO_d ?_ | refine VQ_d ?_  | (first | refine VO_nil ?_ | refine VQ_nil ?_) | (first | refine V_seq_region ?_ | refine V_seq (V_seq_region ?_) | refine V_seq_draw tmix (by kernel_rfl) ?_ | refine V_seq (V_seq_draw tmix (by kernel_rfl) ?_) | refine V_region ?_ | refine V_draw tmix (by kernel_rfl) ?_))
    refine V_ret ?_
    exact ⟨trivial, ⟨_, rfl, rfl⟩, trivial⟩
  refine V_skip ?_
  clear hc
  repeat (first | refine VO_d ?_ | refine VQ_d ?_  | (first | refine VO_nil ?_ | refine VQ_nil ?_) | (first | refine V_seq_region ?_ | refine V_seq (V_seq_region ?_) | refine V_seq_draw tmix (by kernel_rfl) ?_ | refine V_seq (V_seq_draw tmix (by kernel_rfl) ?_) | refine V_region ?_ | refine V_draw tmix (by kernel_rfl) ?_))
  (first | refine V_cond rfl (fun hc => ?_) (fun hc => ?_) | refine V_seq (V_cond rfl (fun hc => ?_) (fun hc => ?_)))
  · repeat (first | refine VO_d ?_ | refine VQ_d ?_  | (first | refine VO_nil ?_ | refine VQ_nil ?_) | (first | refine V_seq_region ?_ | refine V_seq (V_seq_region ?_) | refine V_seq_draw tmix (by kernel_rfl) ?_ | refine V_seq (V_seq_draw tmix (by kernel_rfl) ?_) | refine V_region ?_ | refine V_draw tmix (by kernel_rfl) ?_))
    refine V_ret ?_
    exact ⟨trivial, ⟨_, rfl, rfl⟩, trivial⟩
  refine V_skip ?_
  clear hc
  repeat (first | refine VO_d ?_ | refine VQ_d ?_ | (first | refine VO_q (Q_call rfl (hs0 1048576 (by omega) (by omega)) (by (repeat (first | exact trivial | exact rfl | exact ⟨_, rfl⟩ | refine And.intro ?_ ?_)); first | done | fail)) rfl ?_ | refine VQ_q (Q_call rfl (hs0 1048576 (by omega) (by omega)) (by (repeat (first | exact trivial | exact rfl | exact ⟨_, rfl⟩ | refine And.intro ?_ ?_)); first | done | fail)) rfl ?_ | (refine VO_bare rfl rfl rfl rfl ?_; refine VO_q (Q_call rfl (hs0 1048576 (by omega) (by omega)) (by (repeat (first | exact trivial | exact rfl | exact ⟨_, rfl⟩ | refine And.intro ?_ ?_)); first | done | fail)) rfl ?_) | refine VQ_run rfl rfl rfl rfl (Q_call rfl (hs0 1048576 (by omega) (by omega)) (by (repeat (first | exact trivial | exact rfl | exact ⟨_, rfl⟩ | refine And.intro ?_ ?_)); first | done | fail)) rfl ?_) | (first | refine VO_nil ?_ | refine VQ_nil ?_) | (first | refine V_seq_region ?_ | refine V_seq (V_seq_region ?_) | refine V_seq_draw tmix (by kernel_rfl) ?_ | refine V_seq (V_seq_draw tmix (by kernel_rfl) ?_) | refine V_region ?_ | refine V_draw tmix (by kernel_rfl) ?_))
  (first | refine V_cond rfl (fun hc => ?_) (fun hc => ?_) | refine V_seq (V_cond rfl (fun hc => ?_) (fun hc => ?_)))
  · repeat (first | refine VO_d ?_ | refine VQ_d ?_  | (first | refine VO_nil ?_ | refine VQ_nil ?_) | (first | refine V_seq_region ?_ | refine V_seq (V_seq_region ?_) | refine V_seq_draw tmix (by kernel_rfl) ?_ | refine V_seq (V_seq_draw tmix (by kernel_rfl) ?_) | refine V_region ?_ | refine V_draw tmix (by kernel_rfl) ?_))
    refine V_ret ?_
    exact ⟨trivial, ⟨_, rfl, rfl⟩, trivial⟩
  refine V_skip ?_
  simp only [decide_eq_false_iff_not] at hc
  obtain ⟨e0, c0⟩ := ite_pos hc
  rw [e0]
  clear hc hs0
  repeat (first | refine VO_d ?_ | refine VQ_d ?_ | (first | refine VO_q (Q_call rfl (hs1 (1048576 - (m0 : Int)) (by omega) (by omega)) (by (repeat (first | exact trivial | exact rfl | exact ⟨_, rfl⟩ | refine And.intro ?_ ?_)); first | done | fail)) rfl ?_ | refine VQ_q (Q_call rfl (hs1 (1048576 - (m0 : Int)) (by omega) (by omega)) (by (repeat (first | exact trivial | exact rfl | exact ⟨_, rfl⟩ | refine And.intro ?_ ?_)); first | done | fail)) rfl ?_ | (refine VO_bare rfl rfl rfl rfl ?_; refine VO_q (Q_call rfl (hs1 (1048576 - (m0 : Int)) (by omega) (by omega)) (by (repeat (first | exact trivial | exact rfl | exact ⟨_, rfl⟩ | refine And.intro ?_ ?_)); first | done | fail)) rfl ?_) | refine VQ_run rfl rfl rfl rfl (Q_call rfl (hs1 (1048576 - (m0 : Int)) (by omega) (by omega)) (by (repeat (first | exact trivial | exact rfl | exact ⟨_, rfl⟩ | refine And.intro ?_ ?_)); first | done | fail)) rfl ?_) | (first | refine VO_nil ?_ | refine VQ_nil ?_) | (first | refine V_seq_region ?_ | refine V_seq (V_seq_region ?_) | refine V_seq_draw tmix (by kernel_rfl) ?_ | refine V_seq (V_seq_draw tmix (by kernel_rfl) ?_) | refine V_region ?_ | refine V_draw tmix (by kernel_rfl) ?_))
  (first | refine V_cond rfl (fun hc => ?_) (fun hc => ?_) | refine V_seq (V_cond rfl (fun hc => ?_) (fun hc => ?_)))
  · repeat (first | refine VO_d ?_ | refine VQ_d ?_  | (first | refine VO_nil ?_ | refine VQ_nil ?_) | (first | refine V_seq_region ?_ | refine V_seq (V_seq_region ?_) | refine V_seq_draw tmix (by kernel_rfl) ?_ | refine V_seq (V_seq_draw tmix (by kernel_rfl) ?_) | refine V_region ?_ | refine V_draw tmix (by kernel_rfl) ?_))
    refine V_ret ?_
    exact ⟨trivial, ⟨_, rfl, rfl⟩, trivial⟩
  refine V_skip ?_
  simp only [decide_eq_false_iff_not] at hc
  obtain ⟨e1, c1⟩ := ite_pos hc
  rw [e1]
  clear hc hs1
  repeat (first | refine VO_d ?_ | refine VQ_d ?_ | (first | refine VO_q (Q_call rfl (hs2 ((1048576 - (m0 : Int)) - (m1 : Int)) (by omega) (by omega)) (by (repeat (first | exact trivial | exact rfl | exact ⟨_, rfl⟩ | refine And.intro ?_ ?_)); first | done | fail)) rfl ?_ | refine VQ_q (Q_call rfl (hs2 ((1048576 - (m0 : Int)) - (m1 : Int)) (by omega) (by omega)) (by (repeat (first | exact trivial | exact rfl | exact ⟨_, rfl⟩ | refine And.intro ?_ ?_)); first | done | fail)) rfl ?_ | (refine VO_bare rfl rfl rfl rfl ?_; refine VO_q (Q_call rfl (hs2 ((1048576 - (m0 : Int)) - (m1 : Int)) (by omega) (by omega)) (by (repeat (first | exact trivial | exact rfl | exact ⟨_, rfl⟩ | refine And.intro ?_ ?_)); first | done | fail)) rfl ?_) | refine VQ_run rfl rfl rfl rfl (Q_call rfl (hs2 ((1048576 - (m0 : Int)) - (m1 : Int)) (by omega) (by omega)) (by (repeat (first | exact trivial | exact rfl | exact ⟨_, rfl⟩ | refine And.intro ?_ ?_)); first | done | fail)) rfl ?_) | (first | refine VO_nil ?_ | refine VQ_nil ?_) | (first | refine V_seq_region ?_ | refine V_seq (V_seq_region ?_) | refine V_seq_draw tmix (by kernel_rfl) ?_ | refine V_seq (V_seq_draw tmix (by kernel_rfl) ?_) | refine V_region ?_ | refine V_draw tmix (by kernel_rfl) ?_))
  (first | refine V_cond rfl (fun hc => ?_) (fun hc => ?_) | refine V_seq (V_cond rfl (fun hc => ?_) (fun hc => ?_)))
  · repeat (first | refine VO_d ?_ | refine VQ_d ?_  | (first | refine VO_nil ?_ | refine VQ_nil ?_) | (first | refine V_seq_region ?_ | refine V_seq (V_seq_region ?_) | refine V_seq_draw tmix (by kernel_rfl) ?_ | refine V_seq (V_seq_draw tmix (by kernel_rfl) ?_) | refine V_region ?_ | refine V_draw tmix (by kernel_rfl) ?_))
    refine V_ret ?_
    exact ⟨trivial, ⟨_, rfl, rfl⟩, trivial⟩
  refine V_skip ?_
  simp only [decide_eq_false_iff_not] at hc
  obtain ⟨e2, c2⟩ := ite_pos hc
  rw [e2]
  clear hc hs2
  have ht0 := ht0 (by omega)
  have htp0 := ht0.p
  have ht1 := ht1 (by omega)
  have htp1 := ht1.p
  have ht2 := ht2 (by omega)
  have htp2 := ht2.p
  obtain ⟨hspec, himpl, hWr1⟩ := hboth (by omega) (by omega) (by omega)
  repeat (first | refine VO_d ?_ | refine VQ_d ?_ | (first | refine VO_q (Q_call rfl htp0 (by (repeat (first | exact trivial | exact rfl | exact ⟨_, rfl⟩ | refine And.intro ?_ ?_)); first | done | fail)) rfl ?_ | refine VQ_q (Q_call rfl htp0 (by (repeat (first | exact trivial | exact rfl | exact ⟨_, rfl⟩ | refine And.intro ?_ ?_)); first | done | fail)) rfl ?_ | (refine VO_bare rfl rfl rfl rfl ?_; refine VO_q (Q_call rfl htp0 (by (repeat (first | exact trivial | exact rfl | exact ⟨_, rfl⟩ | refine And.intro ?_ ?_)); first | done | fail)) rfl ?_) | refine VQ_run rfl rfl rfl rfl (Q_call rfl htp0 (by (repeat (first | exact trivial | exact rfl | exact ⟨_, rfl⟩ | refine And.intro ?_ ?_)); first | done | fail)) rfl ?_) | (first | refine VO_q (Q_call rfl htp1 (by (repeat (first | exact trivial | exact rfl | exact ⟨_, rfl⟩ | refine And.intro ?_ ?_)); first | done | fail)) rfl ?_ | refine VQ_q (Q_call rfl htp1 (by (repeat (first | exact trivial | exact rfl | exact ⟨_, rfl⟩ | refine And.intro ?_ ?_)); first | done | fail)) rfl ?_ | (refine VO_bare rfl rfl rfl rfl ?_; refine VO_q (Q_call rfl htp1 (by (repeat (first | exact trivial | exact rfl | exact ⟨_, rfl⟩ | refine And.intro ?_ ?_)); first | done | fail)) rfl ?_) | refine VQ_run rfl rfl rfl rfl (Q_call rfl htp1 (by (repeat (first | exact trivial | exact rfl | exact ⟨_, rfl⟩ | refine And.intro ?_ ?_)); first | done | fail)) rfl ?_) | (first | refine VO_q (Q_call rfl htp2 (by (repeat (first | exact trivial | exact rfl | exact ⟨_, rfl⟩ | refine And.intro ?_ ?_)); first | done | fail)) rfl ?_ | refine VQ_q (Q_call rfl htp2 (by (repeat (first | exact trivial | exact rfl | exact ⟨_, rfl⟩ | refine And.intro ?_ ?_)); first | done | fail)) rfl ?_ | (refine VO_bare rfl rfl rfl rfl ?_; refine VO_q (Q_call rfl htp2 (by (repeat (first | exact trivial | exact rfl | exact ⟨_, rfl⟩ | refine And.intro ?_ ?_)); first | done | fail)) rfl ?_) | refine VQ_run rfl rfl rfl rfl (Q_call rfl htp2 (by (repeat (first | exact trivial | exact rfl | exact ⟨_, rfl⟩ | refine And.intro ?_ ?_)); first | done | fail)) rfl ?_) | (first | refine VO_nil ?_ | refine VQ_nil ?_) | (first | refine V_seq_region ?_ | refine V_seq (V_seq_region ?_) | refine V_seq_draw tmix (by kernel_rfl) ?_ | refine V_seq (V_seq_draw tmix (by kernel_rfl) ?_) | refine V_region ?_ | refine V_draw tmix (by kernel_rfl) ?_))
  (first | refine VO_q (Q_call rfl hspec (by (repeat (first | exact trivial | exact rfl | exact ⟨_, rfl⟩ | refine And.intro ?_ ?_)); first | done | fail)) rfl ?_ | refine VQ_q (Q_call rfl hspec (by (repeat (first | exact trivial | exact rfl | exact ⟨_, rfl⟩ | refine And.intro ?_ ?_)); first | done | fail)) rfl ?_ | (refine VO_bare rfl rfl rfl rfl ?_; refine VO_q (Q_call rfl hspec (by (repeat (first | exact trivial | exact rfl | exact ⟨_, rfl⟩ | refine And.intro ?_ ?_)); first | done | fail)) rfl ?_) | refine VQ_run rfl rfl rfl rfl (Q_call rfl hspec (by (repeat (first | exact trivial | exact rfl | exact ⟨_, rfl⟩ | refine And.intro ?_ ?_)); first | done | fail)) rfl ?_)
  repeat (first | refine VO_d ?_ | refine VQ_d ?_  | (first | refine VO_nil ?_ | refine VQ_nil ?_) | (first | refine V_seq_region ?_ | refine V_seq (V_seq_region ?_) | refine V_seq_draw tmix (by kernel_rfl) ?_ | refine V_seq (V_seq_draw tmix (by kernel_rfl) ?_) | refine V_region ?_ | refine V_draw tmix (by kernel_rfl) ?_))
  refine VO_callO rfl ht0 (by (repeat (first | exact trivial | exact rfl | exact ⟨_, rfl⟩ | refine And.intro ?_ ?_)); first | done | fail) (by repeat constructor) (by repeat constructor) (by repeat constructor) rfl ?_
  repeat (first | refine VO_d ?_ | refine VQ_d ?_  | (first | refine VO_nil ?_ | refine VQ_nil ?_) | (first | refine V_seq_region ?_ | refine V_seq (V_seq_region ?_) | refine V_seq_draw tmix (by kernel_rfl) ?_ | refine V_seq (V_seq_draw tmix (by kernel_rfl) ?_) | refine V_region ?_ | refine V_draw tmix (by kernel_rfl) ?_))
  refine VO_callO rfl ht1 (by (repeat (first | exact trivial | exact rfl | exact ⟨_, rfl⟩ | refine And.intro ?_ ?_)); first | done | fail) (by repeat constructor) (by repeat constructor) (by repeat constructor) rfl ?_
  repeat (first | refine VO_d ?_ | refine VQ_d ?_  | (first | refine VO_nil ?_ | refine VQ_nil ?_) | (first | refine V_seq_region ?_ | refine V_seq (V_seq_region ?_) | refine V_seq_draw tmix (by kernel_rfl) ?_ | refine V_seq (V_seq_draw tmix (by kernel_rfl) ?_) | refine V_region ?_ | refine V_draw tmix (by kernel_rfl) ?_))
  refine VO_callO rfl ht2 (by (repeat (first | exact trivial | exact rfl | exact ⟨_, rfl⟩ | refine And.intro ?_ ?_)); first | done | fail) (by repeat constructor) (by repeat constructor) (by repeat constructor) rfl ?_
  repeat (first | refine VO_d ?_ | refine VQ_d ?_  | (first | refine VO_nil ?_ | refine VQ_nil ?_) | (first | refine V_seq_region ?_ | refine V_seq (V_seq_region ?_) | refine V_seq_draw tmix (by kernel_rfl) ?_ | refine V_seq (V_seq_draw tmix (by kernel_rfl) ?_) | refine V_region ?_ | refine V_draw tmix (by kernel_rfl) ?_))
  refine VO_callO rfl himpl (by (repeat (first | exact trivial | exact rfl | exact ⟨_, rfl⟩ | refine And.intro ?_ ?_)); first | done | fail) (by repeat constructor) (by repeat constructor) (by repeat constructor) rfl ?_
  repeat (first | refine VO_d ?_ | refine VQ_d ?_  | (first | refine VO_nil ?_ | refine VQ_nil ?_) | (first | refine V_seq_region ?_ | refine V_seq (V_seq_region ?_) | refine V_seq_draw tmix (by kernel_rfl) ?_ | refine V_seq (V_seq_draw tmix (by kernel_rfl) ?_) | refine V_region ?_ | refine V_draw tmix (by kernel_rfl) ?_))
  try simp only [bne_self_eq_false]
  repeat (first | refine VO_d ?_ | refine VQ_d ?_  | (first | refine VO_nil ?_ | refine VQ_nil ?_) | (first | refine V_seq_region ?_ | refine V_seq (V_seq_region ?_) | refine V_seq_draw tmix (by kernel_rfl) ?_ | refine V_seq (V_seq_draw tmix (by kernel_rfl) ?_) | refine V_region ?_ | refine V_draw tmix (by kernel_rfl) ?_))
  (first | refine VO_q (Q_calll rfl hre1 rfl (by (repeat (first | exact trivial | exact rfl | exact ⟨_, rfl⟩ | refine And.intro ?_ ?_)); first | done | fail)) rfl ?_ | refine VQ_q (Q_calll rfl hre1 rfl (by (repeat (first | exact trivial | exact rfl | exact ⟨_, rfl⟩ | refine And.intro ?_ ?_)); first | done | fail)) rfl ?_ | (refine VO_bare rfl rfl rfl rfl ?_; refine VO_q (Q_calll rfl hre1 rfl (by (repeat (first | exact trivial | exact rfl | exact ⟨_, rfl⟩ | refine And.intro ?_ ?_)); first | done | fail)) rfl ?_) | refine VQ_run rfl rfl rfl rfl (Q_calll rfl hre1 rfl (by (repeat (first | exact trivial | exact rfl | exact ⟨_, rfl⟩ | refine And.intro ?_ ?_)); first | done | fail)) rfl ?_)
  repeat (first | refine VO_d ?_ | refine VQ_d ?_  | (first | refine VO_nil ?_ | refine VQ_nil ?_) | (first | refine V_seq_region ?_ | refine V_seq (V_seq_region ?_) | refine V_seq_draw tmix (by kernel_rfl) ?_ | refine V_seq (V_seq_draw tmix (by kernel_rfl) ?_) | refine V_region ?_ | refine V_draw tmix (by kernel_rfl) ?_))
  try simp only [beq_self_eq_true, bne_self_eq_false, Bool.not_true, Bool.not_false]
  repeat (first | refine VO_d ?_ | refine VQ_d ?_  | (first | refine VO_nil ?_ | refine VQ_nil ?_) | (first | refine V_seq_region ?_ | refine V_seq (V_seq_region ?_) | refine V_seq_draw tmix (by kernel_rfl) ?_ | refine V_seq (V_seq_draw tmix (by kernel_rfl) ?_) | refine V_region ?_ | refine V_draw tmix (by kernel_rfl) ?_))
  (first | refine V_cond rfl (fun hc => ?_) (fun hc => ?_) | refine V_seq (V_cond rfl (fun hc => ?_) (fun hc => ?_)))
  · exfalso
    first | (simp at hc; done) | cases hc
  refine V_skip ?_
  clear hc
  repeat (first | refine VO_d ?_ | refine VQ_d ?_ | (first | refine VO_q (Q_call rfl htp0 (by (repeat (first | exact trivial | exact rfl | exact ⟨_, rfl⟩ | refine And.intro ?_ ?_)); first | done | fail)) rfl ?_ | refine VQ_q (Q_call rfl htp0 (by (repeat (first | exact trivial | exact rfl | exact ⟨_, rfl⟩ | refine And.intro ?_ ?_)); first | done | fail)) rfl ?_ | (refine VO_bare rfl rfl rfl rfl ?_; refine VO_q (Q_call rfl htp0 (by (repeat (first | exact trivial | exact rfl | exact ⟨_, rfl⟩ | refine And.intro ?_ ?_)); first | done | fail)) rfl ?_) | refine VQ_run rfl rfl rfl rfl (Q_call rfl htp0 (by (repeat (first | exact trivial | exact rfl | exact ⟨_, rfl⟩ | refine And.intro ?_ ?_)); first | done | fail)) rfl ?_) | (first | refine VO_q (Q_call rfl htp1 (by (repeat (first | exact trivial | exact rfl | exact ⟨_, rfl⟩ | refine And.intro ?_ ?_)); first | done | fail)) rfl ?_ | refine VQ_q (Q_call rfl htp1 (by (repeat (first | exact trivial | exact rfl | exact ⟨_, rfl⟩ | refine And.intro ?_ ?_)); first | done | fail)) rfl ?_ | (refine VO_bare rfl rfl rfl rfl ?_; refine VO_q (Q_call rfl htp1 (by (repeat (first | exact trivial | exact rfl | exact ⟨_, rfl⟩ | refine And.intro ?_ ?_)); first | done | fail)) rfl ?_) | refine VQ_run rfl rfl rfl rfl (Q_call rfl htp1 (by (repeat (first | exact trivial | exact rfl | exact ⟨_, rfl⟩ | refine And.intro ?_ ?_)); first | done | fail)) rfl ?_) | (first | refine VO_q (Q_call rfl htp2 (by (repeat (first | exact trivial | exact rfl | exact ⟨_, rfl⟩ | refine And.intro ?_ ?_)); first | done | fail)) rfl ?_ | refine VQ_q (Q_call rfl htp2 (by (repeat (first | exact trivial | exact rfl | exact ⟨_, rfl⟩ | refine And.intro ?_ ?_)); first | done | fail)) rfl ?_ | (refine VO_bare rfl rfl rfl rfl ?_; refine VO_q (Q_call rfl htp2 (by (repeat (first | exact trivial | exact rfl | exact ⟨_, rfl⟩ | refine And.intro ?_ ?_)); first | done | fail)) rfl ?_) | refine VQ_run rfl rfl rfl rfl (Q_call rfl htp2 (by (repeat (first | exact trivial | exact rfl | exact ⟨_, rfl⟩ | refine And.intro ?_ ?_)); first | done | fail)) rfl ?_) | (first | refine VO_nil ?_ | refine VQ_nil ?_) | (first | refine V_seq_region ?_ | refine V_seq (V_seq_region ?_) | refine V_seq_draw tmix (by kernel_rfl) ?_ | refine V_seq (V_seq_draw tmix (by kernel_rfl) ?_) | refine V_region ?_ | refine V_draw tmix (by kernel_rfl) ?_))
  (first | refine VO_q (Q_calll rfl he0 rfl (by (repeat (first | exact trivial | exact rfl | exact ⟨_, rfl⟩ | refine And.intro ?_ ?_)); first | done | fail)) rfl ?_ | refine VQ_q (Q_calll rfl he0 rfl (by (repeat (first | exact trivial | exact rfl | exact ⟨_, rfl⟩ | refine And.intro ?_ ?_)); first | done | fail)) rfl ?_ | (refine VO_bare rfl rfl rfl rfl ?_; refine VO_q (Q_calll rfl he0 rfl (by (repeat (first | exact trivial | exact rfl | exact ⟨_, rfl⟩ | refine And.intro ?_ ?_)); first | done | fail)) rfl ?_) | refine VQ_run rfl rfl rfl rfl (Q_calll rfl he0 rfl (by (repeat (first | exact trivial | exact rfl | exact ⟨_, rfl⟩ | refine And.intro ?_ ?_)); first | done | fail)) rfl ?_)
  repeat (first | refine VO_d ?_ | refine VQ_d ?_  | (first | refine VO_nil ?_ | refine VQ_nil ?_) | (first | refine V_seq_region ?_ | refine V_seq (V_seq_region ?_) | refine V_seq_draw tmix (by kernel_rfl) ?_ | refine V_seq (V_seq_draw tmix (by kernel_rfl) ?_) | refine V_region ?_ | refine V_draw tmix (by kernel_rfl) ?_))
  (first | refine V_cond rfl (fun hc => ?_) (fun hc => ?_) | refine V_seq (V_cond rfl (fun hc => ?_) (fun hc => ?_)))
  · exfalso
    first | (simp at hc; done) | cases hc
  refine V_skip ?_
  clear hc
  repeat (first | refine VO_d ?_ | refine VQ_d ?_ | (first | refine VO_q (Q_call rfl htp0 (by (repeat (first | exact trivial | exact rfl | exact ⟨_, rfl⟩ | refine And.intro ?_ ?_)); first | done | fail)) rfl ?_ | refine VQ_q (Q_call rfl htp0 (by (repeat (first | exact trivial | exact rfl | exact ⟨_, rfl⟩ | refine And.intro ?_ ?_)); first | done | fail)) rfl ?_ | (refine VO_bare rfl rfl rfl rfl ?_; refine VO_q (Q_call rfl htp0 (by (repeat (first | exact trivial | exact rfl | exact ⟨_, rfl⟩ | refine And.intro ?_ ?_)); first | done | fail)) rfl ?_) | refine VQ_run rfl rfl rfl rfl (Q_call rfl htp0 (by (repeat (first | exact trivial | exact rfl | exact ⟨_, rfl⟩ | refine And.intro ?_ ?_)); first | done | fail)) rfl ?_) | (first | refine VO_q (Q_call rfl htp1 (by (repeat (first | exact trivial | exact rfl | exact ⟨_, rfl⟩ | refine And.intro ?_ ?_)); first | done | fail)) rfl ?_ | refine VQ_q (Q_call rfl htp1 (by (repeat (first | exact trivial | exact rfl | exact ⟨_, rfl⟩ | refine And.intro ?_ ?_)); first | done | fail)) rfl ?_ | (refine VO_bare rfl rfl rfl rfl ?_; refine VO_q (Q_call rfl htp1 (by (repeat (first | exact trivial | exact rfl | exact ⟨_, rfl⟩ | refine And.intro ?_ ?_)); first | done | fail)) rfl ?_) | refine VQ_run rfl rfl rfl rfl (Q_call rfl htp1 (by (repeat (first | exact trivial | exact rfl | exact ⟨_, rfl⟩ | refine And.intro ?_ ?_)); first | done | fail)) rfl ?_) | (first | refine VO_q (Q_call rfl htp2 (by (repeat (first | exact trivial | exact rfl | exact ⟨_, rfl⟩ | refine And.intro ?_ ?_)); first | done | fail)) rfl ?_ | refine VQ_q (Q_call rfl htp2 (by (repeat (first | exact trivial | exact rfl | exact ⟨_, rfl⟩ | refine And.intro ?_ ?_)); first | done | fail)) rfl ?_ | (refine VO_bare rfl rfl rfl rfl ?_; refine VO_q (Q_call rfl htp2 (by (repeat (first | exact trivial | exact rfl | exact ⟨_, rfl⟩ | refine And.intro ?_ ?_)); first | done | fail)) rfl ?_) | refine VQ_run rfl rfl rfl rfl (Q_call rfl htp2 (by (repeat (first | exact trivial | exact rfl | exact ⟨_, rfl⟩ | refine And.intro ?_ ?_)); first | done | fail)) rfl ?_) | (first | refine VO_nil ?_ | refine VQ_nil ?_) | (first | refine V_seq_region ?_ | refine V_seq (V_seq_region ?_) | refine V_seq_draw tmix (by kernel_rfl) ?_ | refine V_seq (V_seq_draw tmix (by kernel_rfl) ?_) | refine V_region ?_ | refine V_draw tmix (by kernel_rfl) ?_))
  (first | refine VO_q (Q_calll rfl he1 rfl (by (repeat (first | exact trivial | exact rfl | exact ⟨_, rfl⟩ | refine And.intro ?_ ?_)); first | done | fail)) rfl ?_ | refine VQ_q (Q_calll rfl he1 rfl (by (repeat (first | exact trivial | exact rfl | exact ⟨_, rfl⟩ | refine And.intro ?_ ?_)); first | done | fail)) rfl ?_ | (refine VO_bare rfl rfl rfl rfl ?_; refine VO_q (Q_calll rfl he1 rfl (by (repeat (first | exact trivial | exact rfl | exact ⟨_, rfl⟩ | refine And.intro ?_ ?_)); first | done | fail)) rfl ?_) | refine VQ_run rfl rfl rfl rfl (Q_calll rfl he1 rfl (by (repeat (first | exact trivial | exact rfl | exact ⟨_, rfl⟩ | refine And.intro ?_ ?_)); first | done | fail)) rfl ?_)
  repeat (first | refine VO_d ?_ | refine VQ_d ?_  | (first | refine VO_nil ?_ | refine VQ_nil ?_) | (first | refine V_seq_region ?_ | refine V_seq (V_seq_region ?_) | refine V_seq_draw tmix (by kernel_rfl) ?_ | refine V_seq (V_seq_draw tmix (by kernel_rfl) ?_) | refine V_region ?_ | refine V_draw tmix (by kernel_rfl) ?_))
  (first | refine V_cond rfl (fun hc => ?_) (fun hc => ?_) | refine V_seq (V_cond rfl (fun hc => ?_) (fun hc => ?_)))
  · exfalso
    first | (simp at hc; done) | cases hc
  refine V_skip ?_
  clear hc
  repeat (first | refine VO_d ?_ | refine VQ_d ?_ | (first | refine VO_q (Q_call rfl htp0 (by (repeat (first | exact trivial | exact rfl | exact ⟨_, rfl⟩ | refine And.intro ?_ ?_)); first | done | fail)) rfl ?_ | refine VQ_q (Q_call rfl htp0 (by (repeat (first | exact trivial | exact rfl | exact ⟨_, rfl⟩ | refine And.intro ?_ ?_)); first | done | fail)) rfl ?_ | (refine VO_bare rfl rfl rfl rfl ?_; refine VO_q (Q_call rfl htp0 (by (repeat (first | exact trivial | exact rfl | exact ⟨_, rfl⟩ | refine And.intro ?_ ?_)); first | done | fail)) rfl ?_) | refine VQ_run rfl rfl rfl rfl (Q_call rfl htp0 (by (repeat (first | exact trivial | exact rfl | exact ⟨_, rfl⟩ | refine And.intro ?_ ?_)); first | done | fail)) rfl ?_) | (first | refine VO_q (Q_call rfl htp1 (by (repeat (first | exact trivial | exact rfl | exact ⟨_, rfl⟩ | refine And.intro ?_ ?_)); first | done | fail)) rfl ?_ | refine VQ_q (Q_call rfl htp1 (by (repeat (first | exact trivial | exact rfl | exact ⟨_, rfl⟩ | refine And.intro ?_ ?_)); first | done | fail)) rfl ?_ | (refine VO_bare rfl rfl rfl rfl ?_; refine VO_q (Q_call rfl htp1 (by (repeat (first | exact trivial | exact rfl | exact ⟨_, rfl⟩ | refine And.intro ?_ ?_)); first | done | fail)) rfl ?_) | refine VQ_run rfl rfl rfl rfl (Q_call rfl htp1 (by (repeat (first | exact trivial | exact rfl | exact ⟨_, rfl⟩ | refine And.intro ?_ ?_)); first | done | fail)) rfl ?_) | (first | refine VO_q (Q_call rfl htp2 (by (repeat (first | exact trivial | exact rfl | exact ⟨_, rfl⟩ | refine And.intro ?_ ?_)); first | done | fail)) rfl ?_ | refine VQ_q (Q_call rfl htp2 (by (repeat (first | exact trivial | exact rfl | exact ⟨_, rfl⟩ | refine And.intro ?_ ?_)); first | done | fail)) rfl ?_ | (refine VO_bare rfl rfl rfl rfl ?_; refine VO_q (Q_call rfl htp2 (by (repeat (first | exact trivial | exact rfl | exact ⟨_, rfl⟩ | refine And.intro ?_ ?_)); first | done | fail)) rfl ?_) | refine VQ_run rfl rfl rfl rfl (Q_call rfl htp2 (by (repeat (first | exact trivial | exact rfl | exact ⟨_, rfl⟩ | refine And.intro ?_ ?_)); first | done | fail)) rfl ?_) | (first | refine VO_nil ?_ | refine VQ_nil ?_) | (first | refine V_seq_region ?_ | refine V_seq (V_seq_region ?_) | refine V_seq_draw tmix (by kernel_rfl) ?_ | refine V_seq (V_seq_draw tmix (by kernel_rfl) ?_) | refine V_region ?_ | refine V_draw tmix (by kernel_rfl) ?_))
  (first | refine VO_q (Q_calll rfl he2 rfl (by (repeat (first | exact trivial | exact rfl | exact ⟨_, rfl⟩ | refine And.intro ?_ ?_)); first | done | fail)) rfl ?_ | refine VQ_q (Q_calll rfl he2 rfl (by (repeat (first | exact trivial | exact rfl | exact ⟨_, rfl⟩ | refine And.intro ?_ ?_)); first | done | fail)) rfl ?_ | (refine VO_bare rfl rfl rfl rfl ?_; refine VO_q (Q_calll rfl he2 rfl (by (repeat (first | exact trivial | exact rfl | exact ⟨_, rfl⟩ | refine And.intro ?_ ?_)); first | done | fail)) rfl ?_) | refine VQ_run rfl rfl rfl rfl (Q_calll rfl he2 rfl (by (repeat (first | exact trivial | exact rfl | exact ⟨_, rfl⟩ | refine And.intro ?_ ?_)); first | done | fail)) rfl ?_)
  repeat (first | refine VO_d ?_ | refine VQ_d ?_  | (first | refine VO_nil ?_ | refine VQ_nil ?_) | (first | refine V_seq_region ?_ | refine V_seq (V_seq_region ?_) | refine V_seq_draw tmix (by kernel_rfl) ?_ | refine V_seq (V_seq_draw tmix (by kernel_rfl) ?_) | refine V_region ?_ | refine V_draw tmix (by kernel_rfl) ?_))
  (first | refine V_cond rfl (fun hc => ?_) (fun hc => ?_) | refine V_seq (V_cond rfl (fun hc => ?_) (fun hc => ?_)))
  · exfalso
    first | (simp at hc; done) | cases hc
  refine V_skip ?_
  clear hc
  have hm0 := hm0 (1) (by omega) (by simp only [U.lf, U.lfs]; omega)
  change MSpec _ _ _ _ (.st [.sl 6 (U.mks u0_0 (1)).1]) ((U.mks u0_0 (1)).2) at hm0
  have hn_u0_0 := mks_snd u0_0 (1)
  repeat (first | refine VO_d ?_ | refine VQ_d ?_  | (first | refine VO_nil ?_ | refine VQ_nil ?_) | (first | refine V_seq_region ?_ | refine V_seq (V_seq_region ?_) | refine V_seq_draw tmix (by kernel_rfl) ?_ | refine V_seq (V_seq_draw tmix (by kernel_rfl) ?_) | refine V_region ?_ | refine V_draw tmix (by kernel_rfl) ?_))
  refine VO_callM rfl hm0 rfl rfl (by repeat (first | exact rfl | constructor)) rfl (by repeat constructor) rfl ?_
  have hm1 := hm1 ((U.mks u0_0 (1)).2) (by omega) (by simp only [U.lf, U.lfs]; omega)
  change MSpec _ _ _ _ (.sl 21 (U.mks us1 ((U.mks u0_0 (1)).2)).1) ((U.mks us1 ((U.mks u0_0 (1)).2)).2) at hm1
  have hn_us1 := mks_snd us1 ((U.mks u0_0 (1)).2)
  repeat (first | refine VO_d ?_ | refine VQ_d ?_  | (first | refine VO_nil ?_ | refine VQ_nil ?_) | (first | refine V_seq_region ?_ | refine V_seq (V_seq_region ?_) | refine V_seq_draw tmix (by kernel_rfl) ?_ | refine V_seq (V_seq_draw tmix (by kernel_rfl) ?_) | refine V_region ?_ | refine V_draw tmix (by kernel_rfl) ?_))
  refine VO_callM rfl hm1 rfl rfl (by repeat (first | exact rfl | constructor)) rfl (by repeat constructor) rfl ?_
  have hm2 := hm2 ((U.mks us1 ((U.mks u0_0 (1)).2)).2) (by omega) (by simp only [U.lf, U.lfs]; omega)
  change MSpec _ _ _ _ (.st [.i .i64 u2_0, .st [.i .i64 u2_1_0, .i .i64 u2_1_1], .sl 1 (U.mks u2_2 ((U.mks us1 ((U.mks u0_0 (1)).2)).2)).1, .sl 5 (U.mks u2_3 ((U.mks u2_2 ((U.mks us1 ((U.mks u0_0 (1)).2)).2)).2)).1]) ((U.mks u2_3 ((U.mks u2_2 ((U.mks us1 ((U.mks u0_0 (1)).2)).2)).2)).2) at hm2
  have hn_u2_2 := mks_snd u2_2 ((U.mks us1 ((U.mks u0_0 (1)).2)).2)
  have hn_u2_3 := mks_snd u2_3 ((U.mks u2_2 ((U.mks us1 ((U.mks u0_0 (1)).2)).2)).2)
  repeat (first | refine VO_d ?_ | refine VQ_d ?_  | (first | refine VO_nil ?_ | refine VQ_nil ?_) | (first | refine V_seq_region ?_ | refine V_seq (V_seq_region ?_) | refine V_seq_draw tmix (by kernel_rfl) ?_ | refine V_seq (V_seq_draw tmix (by kernel_rfl) ?_) | refine V_region ?_ | refine V_draw tmix (by kernel_rfl) ?_))
  refine VO_callM rfl hm2 rfl rfl (by repeat (first | exact rfl | constructor)) rfl (by repeat constructor) rfl ?_
  repeat (first | refine VO_d ?_ | refine VQ_d ?_  | (first | refine VO_nil ?_ | refine VQ_nil ?_) | (first | refine V_seq_region ?_ | refine V_seq (V_seq_region ?_) | refine V_seq_draw tmix (by kernel_rfl) ?_ | refine V_seq (V_seq_draw tmix (by kernel_rfl) ?_) | refine V_region ?_ | refine V_draw tmix (by kernel_rfl) ?_))
  have hK : decide ((U.mks u2_3 ((U.mks u2_2 ((U.mks us1 ((U.mks u0_0 (1)).2)).2)).2)).2 < 0) = false := decide_eq_false (by omega)
  try rw [hK]
  repeat (first | refine VO_d ?_ | refine VQ_d ?_  | (first | refine VO_nil ?_ | refine VQ_nil ?_) | (first | refine V_seq_region ?_ | refine V_seq (V_seq_region ?_) | refine V_seq_draw tmix (by kernel_rfl) ?_ | refine V_seq (V_seq_draw tmix (by kernel_rfl) ?_) | refine V_region ?_ | refine V_draw tmix (by kernel_rfl) ?_))
  try simp only [bne_self_eq_false]
  repeat (first | refine VO_d ?_ | refine VQ_d ?_  | (first | refine VO_nil ?_ | refine VQ_nil ?_) | (first | refine V_seq_region ?_ | refine V_seq (V_seq_region ?_) | refine V_seq_draw tmix (by kernel_rfl) ?_ | refine V_seq (V_seq_draw tmix (by kernel_rfl) ?_) | refine V_region ?_ | refine V_draw tmix (by kernel_rfl) ?_))
  (first | refine VO_q (Q_calll rfl hre1 rfl (by (repeat (first | exact trivial | exact rfl | exact ⟨_, rfl⟩ | refine And.intro ?_ ?_)); first | done | fail)) rfl ?_ | refine VQ_q (Q_calll rfl hre1 rfl (by (repeat (first | exact trivial | exact rfl | exact ⟨_, rfl⟩ | refine And.intro ?_ ?_)); first | done | fail)) rfl ?_ | (refine VO_bare rfl rfl rfl rfl ?_; refine VO_q (Q_calll rfl hre1 rfl (by (repeat (first | exact trivial | exact rfl | exact ⟨_, rfl⟩ | refine And.intro ?_ ?_)); first | done | fail)) rfl ?_) | refine VQ_run rfl rfl rfl rfl (Q_calll rfl hre1 rfl (by (repeat (first | exact trivial | exact rfl | exact ⟨_, rfl⟩ | refine And.intro ?_ ?_)); first | done | fail)) rfl ?_)
  repeat (first | refine VO_d ?_ | refine VQ_d ?_  | (first | refine VO_nil ?_ | refine VQ_nil ?_) | (first | refine V_seq_region ?_ | refine V_seq (V_seq_region ?_) | refine V_seq_draw tmix (by kernel_rfl) ?_ | refine V_seq (V_seq_draw tmix (by kernel_rfl) ?_) | refine V_region ?_ | refine V_draw tmix (by kernel_rfl) ?_))
  try simp only [beq_self_eq_true, bne_self_eq_false, Bool.not_true, Bool.not_false]
  repeat (first | refine VO_d ?_ | refine VQ_d ?_  | (first | refine VO_nil ?_ | refine VQ_nil ?_) | (first | refine V_seq_region ?_ | refine V_seq (V_seq_region ?_) | refine V_seq_draw tmix (by kernel_rfl) ?_ | refine V_seq (V_seq_draw tmix (by kernel_rfl) ?_) | refine V_region ?_ | refine V_draw tmix (by kernel_rfl) ?_))
  (first | refine V_cond rfl (fun hc => ?_) (fun hc => ?_) | refine V_seq (V_cond rfl (fun hc => ?_) (fun hc => ?_)))
  · exfalso
    first | (simp at hc; done) | cases hc
  refine V_skip ?_
  clear hc
  have hrm1 := hrm1 (1) (by omega) (by simp only [U.lf, U.lfs]; omega)
  change MSpec _ _ _ _ (.sl 5 (U.mks r1 (1)).1) ((U.mks r1 (1)).2) at hrm1
  have hn_r1 := mks_snd r1 (1)
  have hrh1 := hrh1 (1) (by omega) (by simp only [U.lf, U.lfs]; omega)
  change SpecP _ _ [.d (.sl 5 (U.mks r1 (1)).1), .d (.i .i64 (1))] [.i .i64 ((U.mks r1 (1)).2)] at hrh1
  repeat (first | refine VO_d ?_ | refine VQ_d ?_  | (first | refine VO_nil ?_ | refine VQ_nil ?_) | (first | refine V_seq_region ?_ | refine V_seq (V_seq_region ?_) | refine V_seq_draw tmix (by kernel_rfl) ?_ | refine V_seq (V_seq_draw tmix (by kernel_rfl) ?_) | refine V_region ?_ | refine V_draw tmix (by kernel_rfl) ?_))
  refine VO_callM rfl hrm1 rfl rfl (by repeat (first | exact rfl | constructor)) rfl (by repeat constructor) rfl ?_
  repeat (first | refine VO_d ?_ | refine VQ_d ?_  | (first | refine VO_nil ?_ | refine VQ_nil ?_) | (first | refine V_seq_region ?_ | refine V_seq (V_seq_region ?_) | refine V_seq_draw tmix (by kernel_rfl) ?_ | refine V_seq (V_seq_draw tmix (by kernel_rfl) ?_) | refine V_region ?_ | refine V_draw tmix (by kernel_rfl) ?_))
  (first | refine VO_q (Q_calll rfl hrh1 rfl (by (repeat (first | exact trivial | exact rfl | exact ⟨_, rfl⟩ | refine And.intro ?_ ?_)); first | done | fail)) rfl ?_ | refine VQ_q (Q_calll rfl hrh1 rfl (by (repeat (first | exact trivial | exact rfl | exact ⟨_, rfl⟩ | refine And.intro ?_ ?_)); first | done | fail)) rfl ?_ | (refine VO_bare rfl rfl rfl rfl ?_; refine VO_q (Q_calll rfl hrh1 rfl (by (repeat (first | exact trivial | exact rfl | exact ⟨_, rfl⟩ | refine And.intro ?_ ?_)); first | done | fail)) rfl ?_) | refine VQ_run rfl rfl rfl rfl (Q_calll rfl hrh1 rfl (by (repeat (first | exact trivial | exact rfl | exact ⟨_, rfl⟩ | refine And.intro ?_ ?_)); first | done | fail)) rfl ?_)
  repeat (first | refine VO_d ?_ | refine VQ_d ?_  | (first | refine VO_nil ?_ | refine VQ_nil ?_) | (first | refine V_seq_region ?_ | refine V_seq (V_seq_region ?_) | refine V_seq_draw tmix (by kernel_rfl) ?_ | refine V_seq (V_seq_draw tmix (by kernel_rfl) ?_) | refine V_region ?_ | refine V_draw tmix (by kernel_rfl) ?_))
  (first | refine V_cond rfl (fun hc => ?_) (fun hc => ?_) | refine V_seq (V_cond rfl (fun hc => ?_) (fun hc => ?_)))
  · exfalso
    simp only [decide_eq_true_eq] at hc
    change (U.mks r1 (1)).2 < 0 at hc
    omega
  refine V_skip ?_
  clear hc
  repeat (first | refine VO_d ?_ | refine VQ_d ?_  | (first | refine VO_nil ?_ | refine VQ_nil ?_) | (first | refine V_seq_region ?_ | refine V_seq (V_seq_region ?_) | refine V_seq_draw tmix (by kernel_rfl) ?_ | refine V_seq (V_seq_draw tmix (by kernel_rfl) ?_) | refine V_region ?_ | refine V_draw tmix (by kernel_rfl) ?_))
  (first | refine V_cond rfl (fun hc => ?_) (fun hc => ?_) | refine V_seq (V_cond rfl (fun hc => ?_) (fun hc => ?_)))
  · exfalso
    first | (simp at hc; done) | cases hc
  refine V_skip ?_
  clear hc
  repeat (first | refine VO_d ?_ | refine VQ_d ?_ | (first | refine VO_q (Q_call rfl htp0 (by (repeat (first | exact trivial | exact rfl | exact ⟨_, rfl⟩ | refine And.intro ?_ ?_)); first | done | fail)) rfl ?_ | refine VQ_q (Q_call rfl htp0 (by (repeat (first | exact trivial | exact rfl | exact ⟨_, rfl⟩ | refine And.intro ?_ ?_)); first | done | fail)) rfl ?_ | (refine VO_bare rfl rfl rfl rfl ?_; refine VO_q (Q_call rfl htp0 (by (repeat (first | exact trivial | exact rfl | exact ⟨_, rfl⟩ | refine And.intro ?_ ?_)); first | done | fail)) rfl ?_) | refine VQ_run rfl rfl rfl rfl (Q_call rfl htp0 (by (repeat (first | exact trivial | exact rfl | exact ⟨_, rfl⟩ | refine And.intro ?_ ?_)); first | done | fail)) rfl ?_) | (first | refine VO_q (Q_call rfl htp1 (by (repeat (first | exact trivial | exact rfl | exact ⟨_, rfl⟩ | refine And.intro ?_ ?_)); first | done | fail)) rfl ?_ | refine VQ_q (Q_call rfl htp1 (by (repeat (first | exact trivial | exact rfl | exact ⟨_, rfl⟩ | refine And.intro ?_ ?_)); first | done | fail)) rfl ?_ | (refine VO_bare rfl rfl rfl rfl ?_; refine VO_q (Q_call rfl htp1 (by (repeat (first | exact trivial | exact rfl | exact ⟨_, rfl⟩ | refine And.intro ?_ ?_)); first | done | fail)) rfl ?_) | refine VQ_run rfl rfl rfl rfl (Q_call rfl htp1 (by (repeat (first | exact trivial | exact rfl | exact ⟨_, rfl⟩ | refine And.intro ?_ ?_)); first | done | fail)) rfl ?_) | (first | refine VO_q (Q_call rfl htp2 (by (repeat (first | exact trivial | exact rfl | exact ⟨_, rfl⟩ | refine And.intro ?_ ?_)); first | done | fail)) rfl ?_ | refine VQ_q (Q_call rfl htp2 (by (repeat (first | exact trivial | exact rfl | exact ⟨_, rfl⟩ | refine And.intro ?_ ?_)); first | done | fail)) rfl ?_ | (refine VO_bare rfl rfl rfl rfl ?_; refine VO_q (Q_call rfl htp2 (by (repeat (first | exact trivial | exact rfl | exact ⟨_, rfl⟩ | refine And.intro ?_ ?_)); first | done | fail)) rfl ?_) | refine VQ_run rfl rfl rfl rfl (Q_call rfl htp2 (by (repeat (first | exact trivial | exact rfl | exact ⟨_, rfl⟩ | refine And.intro ?_ ?_)); first | done | fail)) rfl ?_) | (first | refine VO_nil ?_ | refine VQ_nil ?_) | (first | refine V_seq_region ?_ | refine V_seq (V_seq_region ?_) | refine V_seq_draw tmix (by kernel_rfl) ?_ | refine V_seq (V_seq_draw tmix (by kernel_rfl) ?_) | refine V_region ?_ | refine V_draw tmix (by kernel_rfl) ?_))
  (first | refine VQ_q (Q_call rfl himpl.p (by (repeat (first | exact trivial | exact rfl | exact ⟨_, rfl⟩ | refine And.intro ?_ ?_)); first | done | fail)) rfl ?_ | (refine VO_callO rfl himpl (by (repeat (first | exact trivial | exact rfl | exact ⟨_, rfl⟩ | refine And.intro ?_ ?_)); first | done | fail) (by repeat constructor) (by repeat constructor) (by repeat constructor) rfl ?_))
  repeat (first | refine VO_d ?_ | refine VQ_d ?_  | (first | refine VO_nil ?_ | refine VQ_nil ?_) | (first | refine V_seq_region ?_ | refine V_seq (V_seq_region ?_) | refine V_seq_draw tmix (by kernel_rfl) ?_ | refine V_seq (V_seq_draw tmix (by kernel_rfl) ?_) | refine V_region ?_ | refine V_draw tmix (by kernel_rfl) ?_))
  try simp only [bne_self_eq_false]
  repeat (first | refine VO_d ?_ | refine VQ_d ?_  | (first | refine VO_nil ?_ | refine VQ_nil ?_) | (first | refine V_seq_region ?_ | refine V_seq (V_seq_region ?_) | refine V_seq_draw tmix (by kernel_rfl) ?_ | refine V_seq (V_seq_draw tmix (by kernel_rfl) ?_) | refine V_region ?_ | refine V_draw tmix (by kernel_rfl) ?_))
  (first | refine VO_q (Q_calll rfl hre1 rfl (by (repeat (first | exact trivial | exact rfl | exact ⟨_, rfl⟩ | refine And.intro ?_ ?_)); first | done | fail)) rfl ?_ | refine VQ_q (Q_calll rfl hre1 rfl (by (repeat (first | exact trivial | exact rfl | exact ⟨_, rfl⟩ | refine And.intro ?_ ?_)); first | done | fail)) rfl ?_ | (refine VO_bare rfl rfl rfl rfl ?_; refine VO_q (Q_calll rfl hre1 rfl (by (repeat (first | exact trivial | exact rfl | exact ⟨_, rfl⟩ | refine And.intro ?_ ?_)); first | done | fail)) rfl ?_) | refine VQ_run rfl rfl rfl rfl (Q_calll rfl hre1 rfl (by (repeat (first | exact trivial | exact rfl | exact ⟨_, rfl⟩ | refine And.intro ?_ ?_)); first | done | fail)) rfl ?_)
  repeat (first | refine VO_d ?_ | refine VQ_d ?_  | (first | refine VO_nil ?_ | refine VQ_nil ?_) | (first | refine V_seq_region ?_ | refine V_seq (V_seq_region ?_) | refine V_seq_draw tmix (by kernel_rfl) ?_ | refine V_seq (V_seq_draw tmix (by kernel_rfl) ?_) | refine V_region ?_ | refine V_draw tmix (by kernel_rfl) ?_))
  try simp only [beq_self_eq_true, bne_self_eq_false, Bool.not_true, Bool.not_false]
  repeat (first | refine VO_d ?_ | refine VQ_d ?_  | (first | refine VO_nil ?_ | refine VQ_nil ?_) | (first | refine V_seq_region ?_ | refine V_seq (V_seq_region ?_) | refine V_seq_draw tmix (by kernel_rfl) ?_ | refine V_seq (V_seq_draw tmix (by kernel_rfl) ?_) | refine V_region ?_ | refine V_draw tmix (by kernel_rfl) ?_))
  (first | refine V_cond rfl (fun hc => ?_) (fun hc => ?_) | refine V_seq (V_cond rfl (fun hc => ?_) (fun hc => ?_)))
  · exfalso
    first | (simp at hc; done) | cases hc
  refine V_skip ?_
  clear hc
  repeat (first | refine VO_d ?_ | refine VQ_d ?_  | (first | refine VO_nil ?_ | refine VQ_nil ?_) | (first | refine V_seq_region ?_ | refine V_seq (V_seq_region ?_) | refine V_seq_draw tmix (by kernel_rfl) ?_ | refine V_seq (V_seq_draw tmix (by kernel_rfl) ?_) | refine V_region ?_ | refine V_draw tmix (by kernel_rfl) ?_))
  (first | refine VO_q (Q_calll rfl hrh1 rfl (by (repeat (first | exact trivial | exact rfl | exact ⟨_, rfl⟩ | refine And.intro ?_ ?_)); first | done | fail)) rfl ?_ | refine VQ_q (Q_calll rfl hrh1 rfl (by (repeat (first | exact trivial | exact rfl | exact ⟨_, rfl⟩ | refine And.intro ?_ ?_)); first | done | fail)) rfl ?_ | (refine VO_bare rfl rfl rfl rfl ?_; refine VO_q (Q_calll rfl hrh1 rfl (by (repeat (first | exact trivial | exact rfl | exact ⟨_, rfl⟩ | refine And.intro ?_ ?_)); first | done | fail)) rfl ?_) | refine VQ_run rfl rfl rfl rfl (Q_calll rfl hrh1 rfl (by (repeat (first | exact trivial | exact rfl | exact ⟨_, rfl⟩ | refine And.intro ?_ ?_)); first | done | fail)) rfl ?_)
  repeat (first | refine VO_d ?_ | refine VQ_d ?_  | (first | refine VO_nil ?_ | refine VQ_nil ?_) | (first | refine V_seq_region ?_ | refine V_seq (V_seq_region ?_) | refine V_seq_draw tmix (by kernel_rfl) ?_ | refine V_seq (V_seq_draw tmix (by kernel_rfl) ?_) | refine V_region ?_ | refine V_draw tmix (by kernel_rfl) ?_))
  (first | refine V_cond rfl (fun hc => ?_) (fun hc => ?_) | refine V_seq (V_cond rfl (fun hc => ?_) (fun hc => ?_)))
  · exfalso
    simp only [decide_eq_true_eq] at hc
    change (U.mks r1 (1)).2 < 0 at hc
    omega
  refine V_skip ?_
  clear hc
  repeat (first | refine VO_d ?_ | refine VQ_d ?_  | (first | refine VO_nil ?_ | refine VQ_nil ?_) | (first | refine V_seq_region ?_ | refine V_seq (V_seq_region ?_) | refine V_seq_draw tmix (by kernel_rfl) ?_ | refine V_seq (V_seq_draw tmix (by kernel_rfl) ?_) | refine V_region ?_ | refine V_draw tmix (by kernel_rfl) ?_))
  (first | refine V_cond rfl (fun hc => ?_) (fun hc => ?_) | refine V_seq (V_cond rfl (fun hc => ?_) (fun hc => ?_)))
  · exfalso
    first | (simp at hc; done) | cases hc
  refine V_skip ?_
  clear hc
  repeat (first | refine VO_d ?_ | refine VQ_d ?_  | (first | refine VO_nil ?_ | refine VQ_nil ?_) | (first | refine V_seq_region ?_ | refine V_seq (V_seq_region ?_) | refine V_seq_draw tmix (by kernel_rfl) ?_ | refine V_seq (V_seq_draw tmix (by kernel_rfl) ?_) | refine V_region ?_ | refine V_draw tmix (by kernel_rfl) ?_))
  refine V_ret ?_
  exact ⟨trivial, ⟨_, rfl, rfl⟩, trivial⟩
end
theorem own : ownKnob Tryz.prog.godebug = none := by kernel_rfl
theorem laidOut : laidOutB Tryz.prog = true := by kernel_rfl
set_option maxRecDepth 100000 in
theorem lifted (os : Os) (started : os.Started) (H : Type) (enc : TypeId × Value → H) :
    ReturnsInHanded {} Tryz.checked os 4 .any (Rows.fnExactResolveMethodSpec.pre6 enc Tryz.prog Tryz.f4 Rows.fnExactResolveMethodRow.domain false) (Rows.fnExactResolveMethodSpec.post enc Tryz.prog Tryz.f4 false true false false) := by
  refine returnsInHanded_of_change_sized (C := Tryz.checked) own started (by kernel_rfl) Tryz.func4
    (ChangeSpec.witness6 (enc := enc) (C := Tryz.checked) false ⟨#[], #[.agg #[.slice none 0 0], .slice none 0 0, .agg #[.int .i64 0, .int .i64 0, .int .i64 0, .slice none 0 0, .slice none 0 0], .string ByteArray.empty, .string ByteArray.empty], []⟩ 8 (by kernel_rfl) (by kernel_rfl) (by kernel_rfl) (by kernel_rfl)) ?_
  intro W base args ds gs before hval0 hW hcnd hsz _
  have hval : ∀ (j : Nat) t v, Tryz.f4.params[j]? = some t → args[j]? = some v → Value.okWide Tryz.prog W .any base t v := hval0
  have hW' := hW
  obtain ⟨p, q, hA0, hV, rfl, hfz, hnd⟩ := hW
  have hA : DataW.TrodAll enc Tryz.prog W 0 (fun _ => true) true Tryz.f4.params.toList args.toList ds p := hA0
  rw [Tryz.params4] at hA hval
  obtain ⟨v0, vs0, d0, ds0, p0, q0, hargs, rfl, rfl, h0, r0⟩ := trodAll_cons hA
  obtain ⟨v1, vs1, d1, ds1, p1, q1, rfl, rfl, rfl, h1, r1⟩ := trodAll_cons r0
  obtain ⟨v2, vs2, d2, ds2, p2, q2, rfl, rfl, rfl, h2, r2⟩ := trodAll_cons r1
  obtain ⟨v3, vs3, d3, ds3, p3, q3, rfl, rfl, rfl, h3, r3⟩ := trodAll_cons r2
  obtain ⟨v4, vs4, d4, ds4, p4, q4, rfl, rfl, rfl, h4, r4⟩ := trodAll_cons r3
  obtain ⟨rfl, rfl, rfl⟩ := trodAll_nil r4
  obtain rfl : args = #[v0, v1, v2, v3, v4] := by cases args; simp_all
  obtain ⟨rfl, rfl⟩ := trodVars_none hV
  have hwt : ∀ x ∈ DataW.weightsEach Tryz.prog (Tryz.f4.params.toList ++ Rows.fnExactResolveMethodSpec.plain.varTypes Tryz.prog) ([d0, d1, d2, d3, d4] ++ []), x ≤ reachBytes := by
    intro x hx
    have := List.all_eq_true.1 hsz x hx
    simpa using this
  rw [Tryz.params4] at hwt
  have k0 := h0
  have lt0 : ∀ x ∈ p0, x.block < W.heap.size := by obtain ⟨m, hm⟩ := k0; exact DataW.trod_lt m _ _ _ hm
  obtain ⟨u0, s0, w0⟩ := bridgeV tm_ok h0 (show tmS 24 = some (.st 15) from rfl) (fun x hx => hwt x (by simp [DataW.weightsEach, hx])) (ok_agg tm_ok (show tmS 24 = some (.st 15) from rfl) (hval 0 _ v0 rfl rfl))
  have k1 := h1
  have lt1 : ∀ x ∈ p1, x.block < W.heap.size := by obtain ⟨m, hm⟩ := k1; exact DataW.trod_lt m _ _ _ hm
  obtain ⟨u1, s1, w1⟩ := bridgeV tm_ok h1 (show tmS 34 = some (.sl (.st 25)) from rfl) (fun x hx => hwt x (by simp [DataW.weightsEach, hx])) (ok_agg tm_ok (show tmS 34 = some (.sl (.st 25)) from rfl) (hval 1 _ v1 rfl rfl))
  have k2 := h2
  have lt2 : ∀ x ∈ p2, x.block < W.heap.size := by obtain ⟨m, hm⟩ := k2; exact DataW.trod_lt m _ _ _ hm
  obtain ⟨u2, s2, w2⟩ := bridgeV tm_ok h2 (show tmS 40 = some (.st 26) from rfl) (fun x hx => hwt x (by simp [DataW.weightsEach, hx])) (ok_agg tm_ok (show tmS 40 = some (.st 26) from rfl) (hval 2 _ v2 rfl rfl))
  have k3 := h3
  have lt3 : ∀ x ∈ p3, x.block < W.heap.size := by obtain ⟨m, hm⟩ := k3; exact DataW.trod_lt m _ _ _ hm
  obtain ⟨u3, s3, w3⟩ := bridgeV tm_ok h3 (show tmS 9 = some (.str) from rfl) (fun x hx => hwt x (by simp [DataW.weightsEach, hx])) (ok_agg tm_ok (show tmS 9 = some (.str) from rfl) (hval 3 _ v3 rfl rfl))
  have k4 := h4
  have lt4 : ∀ x ∈ p4, x.block < W.heap.size := by obtain ⟨m, hm⟩ := k4; exact DataW.trod_lt m _ _ _ hm
  obtain ⟨u4, s4, w4⟩ := bridgeV tm_ok h4 (show tmS 9 = some (.str) from rfl) (fun x hx => hwt x (by simp [DataW.weightsEach, hx])) (ok_agg tm_ok (show tmS 9 = some (.str) from rfl) (hval 4 _ v4 rfl rfl))
  clear hA0 hval0
  refine (calls_of_SpecP (walk w0 w1 w2 w3 w4) (vs := [v0, v1, v2, v3, v4]) (by simp only [SVrs]; exact ⟨s0, s1, s2, s3, s4, trivial⟩) trivial).mono fun e W' ⟨r, he, hr, bel⟩ => ?_
  subst he
  obtain rfl := ret_true hr
  exact ⟨_, rfl, _, _, _, [], _, [], hW', trodAll_mk1 (shut_bool Tryz.underlying4 _), (trodAll_cons_mk (Below.trod laidOut (by kernel_rfl) (of_decide_eq_true (by kernel_rfl)) k0 bel lt0) (trodAll_cons_mk (Below.trod laidOut (by kernel_rfl) (of_decide_eq_true (by kernel_rfl)) k1 bel lt1) (trodAll_cons_mk (Below.trod laidOut (by kernel_rfl) (of_decide_eq_true (by kernel_rfl)) k2 bel lt2) (trodAll_cons_mk (Below.trod laidOut (by kernel_rfl) (of_decide_eq_true (by kernel_rfl)) k3 bel lt3) (trodAll_cons_mk (Below.trod laidOut (by kernel_rfl) (of_decide_eq_true (by kernel_rfl)) k4 bel lt4) trodAll_mk0))))), rfl, bel.frame _, fun h => by cases h⟩
theorem proved : Rows.FnExactResolveMethodSaid :=
  OpenClaim.holds_of_wide 4 Tryz.f4 rfl rfl rfl rfl rfl rfl rfl ⟨rfl, rfl, rfl, rfl, rfl⟩ rfl rfl rfl rfl rfl (by kernel_rfl) Tryz.func4 (by kernel_rfl)
    (of_decide_eq_true (by kernel_rfl)) (by unfold Func.isWrapper; first | (rw [if_pos (by decide +kernel)]; kernel_rfl) | (rw [if_neg (by decide +kernel)]; exact ⟨rfl, rfl⟩))
    (fun os started H enc _ => lifted os started H enc)
#print axioms proved
end Go.Proofs.YthojhakapbfbiaaGreat.lFnExactResolveMethod
