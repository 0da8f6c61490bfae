/- MethodType of the program returns what the reference's returns, for all arguments (where they hold together at most 2^20 elements and letters; the law itself asks for no more), leaves its arguments unmodified and shares no memory with them. -/
import Derived.Test.YtihihldpcgiibaaGreatRows
import Derived.Test.YtihihldpcgiibaaGreatMarkM
import Derived.Test.YtihihldpcgiibaaGreatMt2
import Derived.Test.YtihihldpcgiibaaGreatJfFnExactMethodType
import Derived.Test.YtihihldpcgiibaaGreatEng30
import Derived.WalkKit
import Derived.ProofKit
import Derived.OpenShut
import Derived.ShutString
import Derived.ChangeOld
import Derived.Below
set_option linter.unusedVariables false
set_option linter.unusedSimpArgs false
namespace Go.Proofs.YtihihldpcgiibaaGreat.lFnExactMethodType
open Go Go.Eng Go.ChangeShapes Go.WideShapes Go.ChangeAt Go.RowKit
open Go.ChangeMaps (open_string shut_string)
open Go.Proofs.YtihihldpcgiibaaGreat

section
attribute [local irreducible] V VO VQ VY Quiet SpecP SpecO MSpec
set_option maxHeartbeats 16000000 in
theorem walk {u0 u1 u2 u3 : U} (w0 : wt (.st 15) u0) (w1 : wt (.str) u1) (w2 : wt (.str) u2) (w3 : wt (.st 1) u3) : SpecP Tryz.prog 4 [.d u0, .d u1, .d u2, .d u3] [.b true] := by
  have hlx0 := lf_le u0 _ w0
  have hs0 : ∀ l : Int, 0 ≤ l → l ≤ 4611686018427387904 → SpecP Tryz.prog 9 [.d u0, .d (.i .i64 l)] [.i .i64 (if (W u0 : Int) ≤ l then l - W u0 else -1)] := szProgram_all w0
  have ht0 : W u0 ≤ 1048576 → SpecO Tryz.prog 12 [.d u0] [156] [u0] := toOProgram_all w0
  have he0 := eqProgram_all w0 w0
  unfold PEq at he0
  rw [deq_self] at he0
  have hm0 := markProgram_all w0
  have hlx3 := lf_le u3 _ w3
  have hs3 : ∀ l : Int, 0 ≤ l → l ≤ 4611686018427387904 → SpecP Tryz.prog 17 [.d u3, .d (.i .i64 l)] [.i .i64 (if (W u3 : Int) ≤ l then l - W u3 else -1)] := szType_all w3
  have ht3 : W u3 ≤ 1048576 → SpecO Tryz.prog 19 [.d u3] [39] [u3] := toOType_all w3
  have he3 := eqType_all w3 w3
  unfold PEq at he3
  rw [deq_self] at he3
  have hm3 := markType_all w3
  obtain ⟨n1, rfl, rb1⟩ := inv_str w1
  obtain ⟨n2, rfl, rb2⟩ := inv_str w2
  obtain ⟨r0, r1, r2, hwr0, hwr1, hboth⟩ := bothMT w0 rb1 rb2 w3
  rw [big_eq] at rb1
  rw [big_eq] at rb2
  have hlr0 := lf_le (.sl 3 r0) (.sl (.st 1)) ⟨rfl, hwr0.1, wta_iff.2 hwr0.2⟩
  have hre0 := eqTypeS_all hwr0 hwr0
  unfold PEq at hre0
  rw [deq_self] at hre0
  have hrm0 := markTypeS_all hwr0
  have hrh0 := heldTypeS_all hwr0
  have hlr1 := lf_le r1 _ hwr1
  have hre1 := eqType_all hwr1 hwr1
  unfold PEq at hre1
  rw [deq_self] at hre1
  have hrm1 := markType_all hwr1
  have hrh1 := heldType_all hwr1
  generalize W u0 = m0 at hs0 ht0 hlx0 hboth
  generalize W u3 = m3 at hs3 ht3 hlx3 hboth
  obtain ⟨u0_0, rfl, w0_0⟩ := inv_Program w0
  obtain ⟨u3_0, u3_1, u3_2, rfl, w3_0, w3_1, w3_2⟩ := inv_Type w3
  obtain ⟨r1_0, r1_1, r1_2, rfl, hwr1_0, hwr1_1, hwr1_2⟩ := inv_Type hwr1
  simp only [U.lf, U.lfs, U.sz, U.szs] at hlx0 hlx3 hlr0 hlr1
  refine SpecP_intro Tryz.func4 rfl (by kernel_rfl) rfl fun A _ => ?_
  repeat (first | refine VO_d ?_ | refine VQ_d ?_  | (first | refine VO_nil ?_ | refine VQ_nil ?_) | (first | refine V_seq_region ?_ | refine V_seq (V_seq_region ?_) | refine V_seq_draw tmix (by kernel_rfl) ?_ | refine V_seq (V_seq_draw tmix (by kernel_rfl) ?_) | refine V_region ?_ | refine V_draw tmix (by kernel_rfl) ?_))
  (first | refine V_cond rfl (fun hc => ?_) (fun hc => ?_) | refine V_seq (V_cond rfl (fun hc => ?_) (fun hc => ?_)))
  · repeat (first | refine VO_d ?_ | refine VQ_d ?_  | (first | refine VO_nil ?_ | refine VQ_nil ?_) | (first | refine V_seq_region ?_ | refine V_seq (V_seq_region ?_) | refine V_seq_draw tmix (by kernel_rfl) ?_ | refine V_seq (V_seq_draw tmix (by kernel_rfl) ?_) | refine V_region ?_ | refine V_draw tmix (by kernel_rfl) ?_))
    refine V_ret ?_
    exact ⟨trivial, ⟨_, rfl, rfl⟩, trivial⟩
  refine V_skip ?_
  clear hc
  repeat (first | refine VO_d ?_ | refine VQ_d ?_  | (first | refine VO_nil ?_ | refine VQ_nil ?_) | (first | refine V_seq_region ?_ | refine V_seq (V_seq_region ?_) | refine V_seq_draw tmix (by kernel_rfl) ?_ | refine V_seq (V_seq_draw tmix (by kernel_rfl) ?_) | refine V_region ?_ | refine V_draw tmix (by kernel_rfl) ?_))
  (first | refine V_cond rfl (fun hc => ?_) (fun hc => ?_) | refine V_seq (V_cond rfl (fun hc => ?_) (fun hc => ?_)))
  · repeat (first | refine VO_d ?_ | refine VQ_d ?_  | (first | refine VO_nil ?_ | refine VQ_nil ?_) | (first | refine V_seq_region ?_ | refine V_seq (V_seq_region ?_) | refine V_seq_draw tmix (by kernel_rfl) ?_ | refine V_seq (V_seq_draw tmix (by kernel_rfl) ?_) | refine V_region ?_ | refine V_draw tmix (by kernel_rfl) ?_))
    refine V_ret ?_
    exact ⟨trivial, ⟨_, rfl, rfl⟩, trivial⟩
  refine V_skip ?_
  clear hc
  repeat (first | refine VO_d ?_ | refine VQ_d ?_ | (first | refine VO_q (Q_call rfl (hs0 1048576 (by omega) (by omega)) (by (repeat (first | exact trivial | exact rfl | exact ⟨_, rfl⟩ | refine And.intro ?_ ?_)); first | done | fail)) rfl ?_ | refine VQ_q (Q_call rfl (hs0 1048576 (by omega) (by omega)) (by (repeat (first | exact trivial | exact rfl | exact ⟨_, rfl⟩ | refine And.intro ?_ ?_)); first | done | fail)) rfl ?_ | (refine VO_bare rfl rfl rfl rfl ?_; refine VO_q (Q_call rfl (hs0 1048576 (by omega) (by omega)) (by (repeat (first | exact trivial | exact rfl | exact ⟨_, rfl⟩ | refine And.intro ?_ ?_)); first | done | fail)) rfl ?_) | refine VQ_run rfl rfl rfl rfl (Q_call rfl (hs0 1048576 (by omega) (by omega)) (by (repeat (first | exact trivial | exact rfl | exact ⟨_, rfl⟩ | refine And.intro ?_ ?_)); first | done | fail)) rfl ?_) | (first | refine VO_nil ?_ | refine VQ_nil ?_) | (first | refine V_seq_region ?_ | refine V_seq (V_seq_region ?_) | refine V_seq_draw tmix (by kernel_rfl) ?_ | refine V_seq (V_seq_draw tmix (by kernel_rfl) ?_) | refine V_region ?_ | refine V_draw tmix (by kernel_rfl) ?_))
  (first | refine V_cond rfl (fun hc => ?_) (fun hc => ?_) | refine V_seq (V_cond rfl (fun hc => ?_) (fun hc => ?_)))
  · repeat (first | refine VO_d ?_ | refine VQ_d ?_  | (first | refine VO_nil ?_ | refine VQ_nil ?_) | (first | refine V_seq_region ?_ | refine V_seq (V_seq_region ?_) | refine V_seq_draw tmix (by kernel_rfl) ?_ | refine V_seq (V_seq_draw tmix (by kernel_rfl) ?_) | refine V_region ?_ | refine V_draw tmix (by kernel_rfl) ?_))
    refine V_ret ?_
    exact ⟨trivial, ⟨_, rfl, rfl⟩, trivial⟩
  refine V_skip ?_
  simp only [decide_eq_false_iff_not] at hc
  obtain ⟨e0, c0⟩ := ite_pos hc
  rw [e0]
  clear hc hs0
  repeat (first | refine VO_d ?_ | refine VQ_d ?_ | (first | refine VO_q (Q_call rfl (hs3 (1048576 - (m0 : Int)) (by omega) (by omega)) (by (repeat (first | exact trivial | exact rfl | exact ⟨_, rfl⟩ | refine And.intro ?_ ?_)); first | done | fail)) rfl ?_ | refine VQ_q (Q_call rfl (hs3 (1048576 - (m0 : Int)) (by omega) (by omega)) (by (repeat (first | exact trivial | exact rfl | exact ⟨_, rfl⟩ | refine And.intro ?_ ?_)); first | done | fail)) rfl ?_ | (refine VO_bare rfl rfl rfl rfl ?_; refine VO_q (Q_call rfl (hs3 (1048576 - (m0 : Int)) (by omega) (by omega)) (by (repeat (first | exact trivial | exact rfl | exact ⟨_, rfl⟩ | refine And.intro ?_ ?_)); first | done | fail)) rfl ?_) | refine VQ_run rfl rfl rfl rfl (Q_call rfl (hs3 (1048576 - (m0 : Int)) (by omega) (by omega)) (by (repeat (first | exact trivial | exact rfl | exact ⟨_, rfl⟩ | refine And.intro ?_ ?_)); first | done | fail)) rfl ?_) | (first | refine VO_nil ?_ | refine VQ_nil ?_) | (first | refine V_seq_region ?_ | refine V_seq (V_seq_region ?_) | refine V_seq_draw tmix (by kernel_rfl) ?_ | refine V_seq (V_seq_draw tmix (by kernel_rfl) ?_) | refine V_region ?_ | refine V_draw tmix (by kernel_rfl) ?_))
  (first | refine V_cond rfl (fun hc => ?_) (fun hc => ?_) | refine V_seq (V_cond rfl (fun hc => ?_) (fun hc => ?_)))
  · repeat (first | refine VO_d ?_ | refine VQ_d ?_  | (first | refine VO_nil ?_ | refine VQ_nil ?_) | (first | refine V_seq_region ?_ | refine V_seq (V_seq_region ?_) | refine V_seq_draw tmix (by kernel_rfl) ?_ | refine V_seq (V_seq_draw tmix (by kernel_rfl) ?_) | refine V_region ?_ | refine V_draw tmix (by kernel_rfl) ?_))
    refine V_ret ?_
    exact ⟨trivial, ⟨_, rfl, rfl⟩, trivial⟩
  refine V_skip ?_
  simp only [decide_eq_false_iff_not] at hc
  obtain ⟨e3, c3⟩ := ite_pos hc
  rw [e3]
  clear hc hs3
  have ht0 := ht0 (by omega)
  have htp0 := ht0.p
  have ht3 := ht3 (by omega)
  have htp3 := ht3.p
  obtain ⟨hspec, himpl, hWr0, hWr1⟩ := hboth (by omega) (by omega)
  refine V_seq_drawX tmix [(0, true), (1, true), (2, true), (3, true), (4, true), (5, true), (6, true), (7, true), (8, true), (9, true), (10, true), (11, false), (12, true), (13, false), (14, true)] (by kernel_rfl) ?_
  repeat (first | refine VY_d rfl ?_ | refine VY_call rfl rfl hspec (fun _ => (by (repeat (first | exact trivial | exact rfl | exact ⟨_, rfl⟩ | refine And.intro ?_ ?_)); first | done | fail)) rfl ?_ | refine VY_call rfl rfl htp0 (fun _ => (by (repeat (first | exact trivial | exact rfl | exact ⟨_, rfl⟩ | refine And.intro ?_ ?_)); first | done | fail)) rfl ?_ | refine VY_call rfl rfl htp3 (fun _ => (by (repeat (first | exact trivial | exact rfl | exact ⟨_, rfl⟩ | refine And.intro ?_ ?_)); first | done | fail)) rfl ?_ | refine VY_h rfl (by repeat constructor) (by repeat (first | exact PfOk.nil | (apply PfOk.keep; focus ((repeat constructor); done)) | (apply PfOk.dep; focus kernel_rfl))) ?_)
  refine VY_nil ?_
  repeat (first | refine VO_d ?_ | refine VQ_d ?_  | (first | refine VO_nil ?_ | refine VQ_nil ?_) | (first | refine V_seq_region ?_ | refine V_seq (V_seq_region ?_) | refine V_seq_draw tmix (by kernel_rfl) ?_ | refine V_seq (V_seq_draw tmix (by kernel_rfl) ?_) | refine V_region ?_ | refine V_draw tmix (by kernel_rfl) ?_))
  refine VO_callO rfl ht0 (by (repeat (first | exact trivial | exact rfl | exact ⟨_, rfl⟩ | refine And.intro ?_ ?_)); first | done | fail) (by repeat constructor) (by repeat constructor) (by repeat constructor) rfl ?_
  repeat (first | refine VO_d ?_ | refine VQ_d ?_  | (first | refine VO_nil ?_ | refine VQ_nil ?_) | (first | refine V_seq_region ?_ | refine V_seq (V_seq_region ?_) | refine V_seq_draw tmix (by kernel_rfl) ?_ | refine V_seq (V_seq_draw tmix (by kernel_rfl) ?_) | refine V_region ?_ | refine V_draw tmix (by kernel_rfl) ?_))
  refine VO_callO rfl ht3 (by (repeat (first | exact trivial | exact rfl | exact ⟨_, rfl⟩ | refine And.intro ?_ ?_)); first | done | fail) (by repeat constructor) (by repeat constructor) (by repeat constructor) rfl ?_
  repeat (first | refine VO_d ?_ | refine VQ_d ?_  | (first | refine VO_nil ?_ | refine VQ_nil ?_) | (first | refine V_seq_region ?_ | refine V_seq (V_seq_region ?_) | refine V_seq_draw tmix (by kernel_rfl) ?_ | refine V_seq (V_seq_draw tmix (by kernel_rfl) ?_) | refine V_region ?_ | refine V_draw tmix (by kernel_rfl) ?_))
  refine VO_callO rfl himpl (by (repeat (first | exact trivial | exact rfl | exact ⟨_, rfl⟩ | refine And.intro ?_ ?_)); first | done | fail) (by repeat constructor) (by repeat constructor) (by repeat constructor) rfl ?_
  repeat (first | refine VO_d ?_ | refine VQ_d ?_  | (first | refine VO_nil ?_ | refine VQ_nil ?_) | (first | refine V_seq_region ?_ | refine V_seq (V_seq_region ?_) | refine V_seq_draw tmix (by kernel_rfl) ?_ | refine V_seq (V_seq_draw tmix (by kernel_rfl) ?_) | refine V_region ?_ | refine V_draw tmix (by kernel_rfl) ?_))
  (first | refine VO_q (Q_calll rfl hre0 rfl (by (repeat (first | exact trivial | exact rfl | exact ⟨_, rfl⟩ | refine And.intro ?_ ?_)); first | done | fail)) rfl ?_ | refine VQ_q (Q_calll rfl hre0 rfl (by (repeat (first | exact trivial | exact rfl | exact ⟨_, rfl⟩ | refine And.intro ?_ ?_)); first | done | fail)) rfl ?_ | (refine VO_bare rfl rfl rfl rfl ?_; refine VO_q (Q_calll rfl hre0 rfl (by (repeat (first | exact trivial | exact rfl | exact ⟨_, rfl⟩ | refine And.intro ?_ ?_)); first | done | fail)) rfl ?_) | refine VQ_run rfl rfl rfl rfl (Q_calll rfl hre0 rfl (by (repeat (first | exact trivial | exact rfl | exact ⟨_, rfl⟩ | refine And.intro ?_ ?_)); first | done | fail)) rfl ?_)
  repeat (first | refine VO_d ?_ | refine VQ_d ?_  | (first | refine VO_nil ?_ | refine VQ_nil ?_) | (first | refine V_seq_region ?_ | refine V_seq (V_seq_region ?_) | refine V_seq_draw tmix (by kernel_rfl) ?_ | refine V_seq (V_seq_draw tmix (by kernel_rfl) ?_) | refine V_region ?_ | refine V_draw tmix (by kernel_rfl) ?_))
  (first | refine VO_q (Q_calll rfl hre1 rfl (by (repeat (first | exact trivial | exact rfl | exact ⟨_, rfl⟩ | refine And.intro ?_ ?_)); first | done | fail)) rfl ?_ | refine VQ_q (Q_calll rfl hre1 rfl (by (repeat (first | exact trivial | exact rfl | exact ⟨_, rfl⟩ | refine And.intro ?_ ?_)); first | done | fail)) rfl ?_ | (refine VO_bare rfl rfl rfl rfl ?_; refine VO_q (Q_calll rfl hre1 rfl (by (repeat (first | exact trivial | exact rfl | exact ⟨_, rfl⟩ | refine And.intro ?_ ?_)); first | done | fail)) rfl ?_) | refine VQ_run rfl rfl rfl rfl (Q_calll rfl hre1 rfl (by (repeat (first | exact trivial | exact rfl | exact ⟨_, rfl⟩ | refine And.intro ?_ ?_)); first | done | fail)) rfl ?_)
  repeat (first | refine VO_d ?_ | refine VQ_d ?_  | (first | refine VO_nil ?_ | refine VQ_nil ?_) | (first | refine V_seq_region ?_ | refine V_seq (V_seq_region ?_) | refine V_seq_draw tmix (by kernel_rfl) ?_ | refine V_seq (V_seq_draw tmix (by kernel_rfl) ?_) | refine V_region ?_ | refine V_draw tmix (by kernel_rfl) ?_))
  try simp only [beq_self_eq_true, bne_self_eq_false, Bool.not_true, Bool.not_false]
  repeat (first | refine VO_d ?_ | refine VQ_d ?_  | (first | refine VO_nil ?_ | refine VQ_nil ?_) | (first | refine V_seq_region ?_ | refine V_seq (V_seq_region ?_) | refine V_seq_draw tmix (by kernel_rfl) ?_ | refine V_seq (V_seq_draw tmix (by kernel_rfl) ?_) | refine V_region ?_ | refine V_draw tmix (by kernel_rfl) ?_))
  (first | refine V_cond rfl (fun hc => ?_) (fun hc => ?_) | refine V_seq (V_cond rfl (fun hc => ?_) (fun hc => ?_)))
  · exfalso
    first | (simp at hc; done) | cases hc
  refine V_skip ?_
  clear hc
  repeat (first | refine VO_d ?_ | refine VQ_d ?_ | (first | refine VO_q (Q_call rfl htp0 (by (repeat (first | exact trivial | exact rfl | exact ⟨_, rfl⟩ | refine And.intro ?_ ?_)); first | done | fail)) rfl ?_ | refine VQ_q (Q_call rfl htp0 (by (repeat (first | exact trivial | exact rfl | exact ⟨_, rfl⟩ | refine And.intro ?_ ?_)); first | done | fail)) rfl ?_ | (refine VO_bare rfl rfl rfl rfl ?_; refine VO_q (Q_call rfl htp0 (by (repeat (first | exact trivial | exact rfl | exact ⟨_, rfl⟩ | refine And.intro ?_ ?_)); first | done | fail)) rfl ?_) | refine VQ_run rfl rfl rfl rfl (Q_call rfl htp0 (by (repeat (first | exact trivial | exact rfl | exact ⟨_, rfl⟩ | refine And.intro ?_ ?_)); first | done | fail)) rfl ?_) | (first | refine VO_q (Q_call rfl htp3 (by (repeat (first | exact trivial | exact rfl | exact ⟨_, rfl⟩ | refine And.intro ?_ ?_)); first | done | fail)) rfl ?_ | refine VQ_q (Q_call rfl htp3 (by (repeat (first | exact trivial | exact rfl | exact ⟨_, rfl⟩ | refine And.intro ?_ ?_)); first | done | fail)) rfl ?_ | (refine VO_bare rfl rfl rfl rfl ?_; refine VO_q (Q_call rfl htp3 (by (repeat (first | exact trivial | exact rfl | exact ⟨_, rfl⟩ | refine And.intro ?_ ?_)); first | done | fail)) rfl ?_) | refine VQ_run rfl rfl rfl rfl (Q_call rfl htp3 (by (repeat (first | exact trivial | exact rfl | exact ⟨_, rfl⟩ | refine And.intro ?_ ?_)); first | done | fail)) rfl ?_) | (first | refine VO_nil ?_ | refine VQ_nil ?_) | (first | refine V_seq_region ?_ | refine V_seq (V_seq_region ?_) | refine V_seq_draw tmix (by kernel_rfl) ?_ | refine V_seq (V_seq_draw tmix (by kernel_rfl) ?_) | refine V_region ?_ | refine V_draw tmix (by kernel_rfl) ?_))
  (first | refine VO_q (Q_calll rfl he0 rfl (by (repeat (first | exact trivial | exact rfl | exact ⟨_, rfl⟩ | refine And.intro ?_ ?_)); first | done | fail)) rfl ?_ | refine VQ_q (Q_calll rfl he0 rfl (by (repeat (first | exact trivial | exact rfl | exact ⟨_, rfl⟩ | refine And.intro ?_ ?_)); first | done | fail)) rfl ?_ | (refine VO_bare rfl rfl rfl rfl ?_; refine VO_q (Q_calll rfl he0 rfl (by (repeat (first | exact trivial | exact rfl | exact ⟨_, rfl⟩ | refine And.intro ?_ ?_)); first | done | fail)) rfl ?_) | refine VQ_run rfl rfl rfl rfl (Q_calll rfl he0 rfl (by (repeat (first | exact trivial | exact rfl | exact ⟨_, rfl⟩ | refine And.intro ?_ ?_)); first | done | fail)) rfl ?_)
  repeat (first | refine VO_d ?_ | refine VQ_d ?_  | (first | refine VO_nil ?_ | refine VQ_nil ?_) | (first | refine V_seq_region ?_ | refine V_seq (V_seq_region ?_) | refine V_seq_draw tmix (by kernel_rfl) ?_ | refine V_seq (V_seq_draw tmix (by kernel_rfl) ?_) | refine V_region ?_ | refine V_draw tmix (by kernel_rfl) ?_))
  (first | refine V_cond rfl (fun hc => ?_) (fun hc => ?_) | refine V_seq (V_cond rfl (fun hc => ?_) (fun hc => ?_)))
  · exfalso
    first | (simp at hc; done) | cases hc
  refine V_skip ?_
  clear hc
  repeat (first | refine VO_d ?_ | refine VQ_d ?_ | (first | refine VO_q (Q_call rfl htp0 (by (repeat (first | exact trivial | exact rfl | exact ⟨_, rfl⟩ | refine And.intro ?_ ?_)); first | done | fail)) rfl ?_ | refine VQ_q (Q_call rfl htp0 (by (repeat (first | exact trivial | exact rfl | exact ⟨_, rfl⟩ | refine And.intro ?_ ?_)); first | done | fail)) rfl ?_ | (refine VO_bare rfl rfl rfl rfl ?_; refine VO_q (Q_call rfl htp0 (by (repeat (first | exact trivial | exact rfl | exact ⟨_, rfl⟩ | refine And.intro ?_ ?_)); first | done | fail)) rfl ?_) | refine VQ_run rfl rfl rfl rfl (Q_call rfl htp0 (by (repeat (first | exact trivial | exact rfl | exact ⟨_, rfl⟩ | refine And.intro ?_ ?_)); first | done | fail)) rfl ?_) | (first | refine VO_q (Q_call rfl htp3 (by (repeat (first | exact trivial | exact rfl | exact ⟨_, rfl⟩ | refine And.intro ?_ ?_)); first | done | fail)) rfl ?_ | refine VQ_q (Q_call rfl htp3 (by (repeat (first | exact trivial | exact rfl | exact ⟨_, rfl⟩ | refine And.intro ?_ ?_)); first | done | fail)) rfl ?_ | (refine VO_bare rfl rfl rfl rfl ?_; refine VO_q (Q_call rfl htp3 (by (repeat (first | exact trivial | exact rfl | exact ⟨_, rfl⟩ | refine And.intro ?_ ?_)); first | done | fail)) rfl ?_) | refine VQ_run rfl rfl rfl rfl (Q_call rfl htp3 (by (repeat (first | exact trivial | exact rfl | exact ⟨_, rfl⟩ | refine And.intro ?_ ?_)); first | done | fail)) rfl ?_) | (first | refine VO_nil ?_ | refine VQ_nil ?_) | (first | refine V_seq_region ?_ | refine V_seq (V_seq_region ?_) | refine V_seq_draw tmix (by kernel_rfl) ?_ | refine V_seq (V_seq_draw tmix (by kernel_rfl) ?_) | refine V_region ?_ | refine V_draw tmix (by kernel_rfl) ?_))
  (first | refine VO_q (Q_calll rfl he3 rfl (by (repeat (first | exact trivial | exact rfl | exact ⟨_, rfl⟩ | refine And.intro ?_ ?_)); first | done | fail)) rfl ?_ | refine VQ_q (Q_calll rfl he3 rfl (by (repeat (first | exact trivial | exact rfl | exact ⟨_, rfl⟩ | refine And.intro ?_ ?_)); first | done | fail)) rfl ?_ | (refine VO_bare rfl rfl rfl rfl ?_; refine VO_q (Q_calll rfl he3 rfl (by (repeat (first | exact trivial | exact rfl | exact ⟨_, rfl⟩ | refine And.intro ?_ ?_)); first | done | fail)) rfl ?_) | refine VQ_run rfl rfl rfl rfl (Q_calll rfl he3 rfl (by (repeat (first | exact trivial | exact rfl | exact ⟨_, rfl⟩ | refine And.intro ?_ ?_)); first | done | fail)) rfl ?_)
  repeat (first | refine VO_d ?_ | refine VQ_d ?_  | (first | refine VO_nil ?_ | refine VQ_nil ?_) | (first | refine V_seq_region ?_ | refine V_seq (V_seq_region ?_) | refine V_seq_draw tmix (by kernel_rfl) ?_ | refine V_seq (V_seq_draw tmix (by kernel_rfl) ?_) | refine V_region ?_ | refine V_draw tmix (by kernel_rfl) ?_))
  (first | refine V_cond rfl (fun hc => ?_) (fun hc => ?_) | refine V_seq (V_cond rfl (fun hc => ?_) (fun hc => ?_)))
  · exfalso
    first | (simp at hc; done) | cases hc
  refine V_skip ?_
  clear hc
  have hm0 := hm0 (1) (by omega) (by simp only [U.lf, U.lfs]; omega)
  change MSpec _ _ _ _ (.st [.sl 6 (U.mks u0_0 (1)).1]) ((U.mks u0_0 (1)).2) at hm0
  have hn_u0_0 := mks_snd u0_0 (1)
  repeat (first | refine VO_d ?_ | refine VQ_d ?_  | (first | refine VO_nil ?_ | refine VQ_nil ?_) | (first | refine V_seq_region ?_ | refine V_seq (V_seq_region ?_) | refine V_seq_draw tmix (by kernel_rfl) ?_ | refine V_seq (V_seq_draw tmix (by kernel_rfl) ?_) | refine V_region ?_ | refine V_draw tmix (by kernel_rfl) ?_))
  refine VO_callM rfl hm0 rfl rfl (by repeat (first | exact rfl | constructor)) rfl (by repeat constructor) rfl ?_
  have hm3 := hm3 ((U.mks u0_0 (1)).2) (by omega) (by simp only [U.lf, U.lfs]; omega)
  change MSpec _ _ _ _ (.st [.i .i64 u3_0, .s u3_1, .sl 3 (U.mks u3_2 ((U.mks u0_0 (1)).2)).1]) ((U.mks u3_2 ((U.mks u0_0 (1)).2)).2) at hm3
  have hn_u3_2 := mks_snd u3_2 ((U.mks u0_0 (1)).2)
  repeat (first | refine VO_d ?_ | refine VQ_d ?_  | (first | refine VO_nil ?_ | refine VQ_nil ?_) | (first | refine V_seq_region ?_ | refine V_seq (V_seq_region ?_) | refine V_seq_draw tmix (by kernel_rfl) ?_ | refine V_seq (V_seq_draw tmix (by kernel_rfl) ?_) | refine V_region ?_ | refine V_draw tmix (by kernel_rfl) ?_))
  refine VO_callM rfl hm3 rfl rfl (by repeat (first | exact rfl | constructor)) rfl (by repeat constructor) rfl ?_
  repeat (first | refine VO_d ?_ | refine VQ_d ?_  | (first | refine VO_nil ?_ | refine VQ_nil ?_) | (first | refine V_seq_region ?_ | refine V_seq (V_seq_region ?_) | refine V_seq_draw tmix (by kernel_rfl) ?_ | refine V_seq (V_seq_draw tmix (by kernel_rfl) ?_) | refine V_region ?_ | refine V_draw tmix (by kernel_rfl) ?_))
  have hK : decide ((U.mks u3_2 ((U.mks u0_0 (1)).2)).2 < 0) = false := decide_eq_false (by omega)
  try rw [hK]
  repeat (first | refine VO_d ?_ | refine VQ_d ?_  | (first | refine VO_nil ?_ | refine VQ_nil ?_) | (first | refine V_seq_region ?_ | refine V_seq (V_seq_region ?_) | refine V_seq_draw tmix (by kernel_rfl) ?_ | refine V_seq (V_seq_draw tmix (by kernel_rfl) ?_) | refine V_region ?_ | refine V_draw tmix (by kernel_rfl) ?_))
  (first | refine VO_q (Q_calll rfl hre0 rfl (by (repeat (first | exact trivial | exact rfl | exact ⟨_, rfl⟩ | refine And.intro ?_ ?_)); first | done | fail)) rfl ?_ | refine VQ_q (Q_calll rfl hre0 rfl (by (repeat (first | exact trivial | exact rfl | exact ⟨_, rfl⟩ | refine And.intro ?_ ?_)); first | done | fail)) rfl ?_ | (refine VO_bare rfl rfl rfl rfl ?_; refine VO_q (Q_calll rfl hre0 rfl (by (repeat (first | exact trivial | exact rfl | exact ⟨_, rfl⟩ | refine And.intro ?_ ?_)); first | done | fail)) rfl ?_) | refine VQ_run rfl rfl rfl rfl (Q_calll rfl hre0 rfl (by (repeat (first | exact trivial | exact rfl | exact ⟨_, rfl⟩ | refine And.intro ?_ ?_)); first | done | fail)) rfl ?_)
  repeat (first | refine VO_d ?_ | refine VQ_d ?_  | (first | refine VO_nil ?_ | refine VQ_nil ?_) | (first | refine V_seq_region ?_ | refine V_seq (V_seq_region ?_) | refine V_seq_draw tmix (by kernel_rfl) ?_ | refine V_seq (V_seq_draw tmix (by kernel_rfl) ?_) | refine V_region ?_ | refine V_draw tmix (by kernel_rfl) ?_))
  (first | refine VO_q (Q_calll rfl hre1 rfl (by (repeat (first | exact trivial | exact rfl | exact ⟨_, rfl⟩ | refine And.intro ?_ ?_)); first | done | fail)) rfl ?_ | refine VQ_q (Q_calll rfl hre1 rfl (by (repeat (first | exact trivial | exact rfl | exact ⟨_, rfl⟩ | refine And.intro ?_ ?_)); first | done | fail)) rfl ?_ | (refine VO_bare rfl rfl rfl rfl ?_; refine VO_q (Q_calll rfl hre1 rfl (by (repeat (first | exact trivial | exact rfl | exact ⟨_, rfl⟩ | refine And.intro ?_ ?_)); first | done | fail)) rfl ?_) | refine VQ_run rfl rfl rfl rfl (Q_calll rfl hre1 rfl (by (repeat (first | exact trivial | exact rfl | exact ⟨_, rfl⟩ | refine And.intro ?_ ?_)); first | done | fail)) rfl ?_)
  repeat (first | refine VO_d ?_ | refine VQ_d ?_  | (first | refine VO_nil ?_ | refine VQ_nil ?_) | (first | refine V_seq_region ?_ | refine V_seq (V_seq_region ?_) | refine V_seq_draw tmix (by kernel_rfl) ?_ | refine V_seq (V_seq_draw tmix (by kernel_rfl) ?_) | refine V_region ?_ | refine V_draw tmix (by kernel_rfl) ?_))
  try simp only [beq_self_eq_true, bne_self_eq_false, Bool.not_true, Bool.not_false]
  repeat (first | refine VO_d ?_ | refine VQ_d ?_  | (first | refine VO_nil ?_ | refine VQ_nil ?_) | (first | refine V_seq_region ?_ | refine V_seq (V_seq_region ?_) | refine V_seq_draw tmix (by kernel_rfl) ?_ | refine V_seq (V_seq_draw tmix (by kernel_rfl) ?_) | refine V_region ?_ | refine V_draw tmix (by kernel_rfl) ?_))
  (first | refine V_cond rfl (fun hc => ?_) (fun hc => ?_) | refine V_seq (V_cond rfl (fun hc => ?_) (fun hc => ?_)))
  · exfalso
    first | (simp at hc; done) | cases hc
  refine V_skip ?_
  clear hc
  have hrm0 := hrm0 (1) (by omega) (by simp only [U.lf, U.lfs]; omega)
  change MSpec _ _ _ _ (.sl 3 (U.mks r0 (1)).1) ((U.mks r0 (1)).2) at hrm0
  have hn_r0 := mks_snd r0 (1)
  have hrh0 := hrh0 (1) (by omega) (by simp only [U.lf, U.lfs]; omega)
  change SpecP _ _ [.d (.sl 3 (U.mks r0 (1)).1), .d (.i .i64 (1))] [.i .i64 ((U.mks r0 (1)).2)] at hrh0
  repeat (first | refine VO_d ?_ | refine VQ_d ?_  | (first | refine VO_nil ?_ | refine VQ_nil ?_) | (first | refine V_seq_region ?_ | refine V_seq (V_seq_region ?_) | refine V_seq_draw tmix (by kernel_rfl) ?_ | refine V_seq (V_seq_draw tmix (by kernel_rfl) ?_) | refine V_region ?_ | refine V_draw tmix (by kernel_rfl) ?_))
  refine VO_callM rfl hrm0 rfl rfl (by repeat (first | exact rfl | constructor)) rfl (by repeat constructor) rfl ?_
  have hrm1 := hrm1 ((U.mks r0 (1)).2) (by omega) (by simp only [U.lf, U.lfs]; omega)
  change MSpec _ _ _ _ (.st [.i .i64 r1_0, .s r1_1, .sl 3 (U.mks r1_2 ((U.mks r0 (1)).2)).1]) ((U.mks r1_2 ((U.mks r0 (1)).2)).2) at hrm1
  have hn_r1_2 := mks_snd r1_2 ((U.mks r0 (1)).2)
  have hrh1 := hrh1 ((U.mks r0 (1)).2) (by omega) (by simp only [U.lf, U.lfs]; omega)
  change SpecP _ _ [.d (.st [.i .i64 r1_0, .s r1_1, .sl 3 (U.mks r1_2 ((U.mks r0 (1)).2)).1]), .d (.i .i64 ((U.mks r0 (1)).2))] [.i .i64 ((U.mks r1_2 ((U.mks r0 (1)).2)).2)] at hrh1
  repeat (first | refine VO_d ?_ | refine VQ_d ?_  | (first | refine VO_nil ?_ | refine VQ_nil ?_) | (first | refine V_seq_region ?_ | refine V_seq (V_seq_region ?_) | refine V_seq_draw tmix (by kernel_rfl) ?_ | refine V_seq (V_seq_draw tmix (by kernel_rfl) ?_) | refine V_region ?_ | refine V_draw tmix (by kernel_rfl) ?_))
  refine VO_callM rfl hrm1 rfl rfl (by repeat (first | exact rfl | constructor)) rfl (by repeat constructor) rfl ?_
  repeat (first | refine VO_d ?_ | refine VQ_d ?_  | (first | refine VO_nil ?_ | refine VQ_nil ?_) | (first | refine V_seq_region ?_ | refine V_seq (V_seq_region ?_) | refine V_seq_draw tmix (by kernel_rfl) ?_ | refine V_seq (V_seq_draw tmix (by kernel_rfl) ?_) | refine V_region ?_ | refine V_draw tmix (by kernel_rfl) ?_))
  (first | refine VO_q (Q_calll rfl hrh0 rfl (by (repeat (first | exact trivial | exact rfl | exact ⟨_, rfl⟩ | refine And.intro ?_ ?_)); first | done | fail)) rfl ?_ | refine VQ_q (Q_calll rfl hrh0 rfl (by (repeat (first | exact trivial | exact rfl | exact ⟨_, rfl⟩ | refine And.intro ?_ ?_)); first | done | fail)) rfl ?_ | (refine VO_bare rfl rfl rfl rfl ?_; refine VO_q (Q_calll rfl hrh0 rfl (by (repeat (first | exact trivial | exact rfl | exact ⟨_, rfl⟩ | refine And.intro ?_ ?_)); first | done | fail)) rfl ?_) | refine VQ_run rfl rfl rfl rfl (Q_calll rfl hrh0 rfl (by (repeat (first | exact trivial | exact rfl | exact ⟨_, rfl⟩ | refine And.intro ?_ ?_)); first | done | fail)) rfl ?_)
  repeat (first | refine VO_d ?_ | refine VQ_d ?_  | (first | refine VO_nil ?_ | refine VQ_nil ?_) | (first | refine V_seq_region ?_ | refine V_seq (V_seq_region ?_) | refine V_seq_draw tmix (by kernel_rfl) ?_ | refine V_seq (V_seq_draw tmix (by kernel_rfl) ?_) | refine V_region ?_ | refine V_draw tmix (by kernel_rfl) ?_))
  (first | refine V_cond rfl (fun hc => ?_) (fun hc => ?_) | refine V_seq (V_cond rfl (fun hc => ?_) (fun hc => ?_)))
  · exfalso
    simp only [decide_eq_true_eq] at hc
    change (U.mks r0 (1)).2 < 0 at hc
    omega
  refine V_skip ?_
  clear hc
  repeat (first | refine VO_d ?_ | refine VQ_d ?_  | (first | refine VO_nil ?_ | refine VQ_nil ?_) | (first | refine V_seq_region ?_ | refine V_seq (V_seq_region ?_) | refine V_seq_draw tmix (by kernel_rfl) ?_ | refine V_seq (V_seq_draw tmix (by kernel_rfl) ?_) | refine V_region ?_ | refine V_draw tmix (by kernel_rfl) ?_))
  (first | refine VO_q (Q_calll rfl hrh1 rfl (by (repeat (first | exact trivial | exact rfl | exact ⟨_, rfl⟩ | refine And.intro ?_ ?_)); first | done | fail)) rfl ?_ | refine VQ_q (Q_calll rfl hrh1 rfl (by (repeat (first | exact trivial | exact rfl | exact ⟨_, rfl⟩ | refine And.intro ?_ ?_)); first | done | fail)) rfl ?_ | (refine VO_bare rfl rfl rfl rfl ?_; refine VO_q (Q_calll rfl hrh1 rfl (by (repeat (first | exact trivial | exact rfl | exact ⟨_, rfl⟩ | refine And.intro ?_ ?_)); first | done | fail)) rfl ?_) | refine VQ_run rfl rfl rfl rfl (Q_calll rfl hrh1 rfl (by (repeat (first | exact trivial | exact rfl | exact ⟨_, rfl⟩ | refine And.intro ?_ ?_)); first | done | fail)) rfl ?_)
  repeat (first | refine VO_d ?_ | refine VQ_d ?_  | (first | refine VO_nil ?_ | refine VQ_nil ?_) | (first | refine V_seq_region ?_ | refine V_seq (V_seq_region ?_) | refine V_seq_draw tmix (by kernel_rfl) ?_ | refine V_seq (V_seq_draw tmix (by kernel_rfl) ?_) | refine V_region ?_ | refine V_draw tmix (by kernel_rfl) ?_))
  (first | refine V_cond rfl (fun hc => ?_) (fun hc => ?_) | refine V_seq (V_cond rfl (fun hc => ?_) (fun hc => ?_)))
  · exfalso
    simp only [decide_eq_true_eq] at hc
    change (U.mks r1_2 ((U.mks r0 (1)).2)).2 < 0 at hc
    omega
  refine V_skip ?_
  clear hc
  repeat (first | refine VO_d ?_ | refine VQ_d ?_  | (first | refine VO_nil ?_ | refine VQ_nil ?_) | (first | refine V_seq_region ?_ | refine V_seq (V_seq_region ?_) | refine V_seq_draw tmix (by kernel_rfl) ?_ | refine V_seq (V_seq_draw tmix (by kernel_rfl) ?_) | refine V_region ?_ | refine V_draw tmix (by kernel_rfl) ?_))
  (first | refine V_cond rfl (fun hc => ?_) (fun hc => ?_) | refine V_seq (V_cond rfl (fun hc => ?_) (fun hc => ?_)))
  · exfalso
    first | (simp at hc; done) | cases hc
  refine V_skip ?_
  clear hc
  refine V_seq_drawX tmix [(0, true), (1, true), (2, true), (3, true), (4, true), (5, true), (6, true), (7, true), (8, true), (9, true), (10, true), (11, false), (12, true), (13, false), (14, true)] (by kernel_rfl) ?_
  repeat (first | refine VY_d rfl ?_ | refine VY_call rfl rfl himpl.p (fun _ => (by (repeat (first | exact trivial | exact rfl | exact ⟨_, rfl⟩ | refine And.intro ?_ ?_)); first | done | fail)) rfl ?_ | refine VY_call rfl rfl htp0 (fun _ => (by (repeat (first | exact trivial | exact rfl | exact ⟨_, rfl⟩ | refine And.intro ?_ ?_)); first | done | fail)) rfl ?_ | refine VY_call rfl rfl htp3 (fun _ => (by (repeat (first | exact trivial | exact rfl | exact ⟨_, rfl⟩ | refine And.intro ?_ ?_)); first | done | fail)) rfl ?_ | refine VY_h rfl (by repeat constructor) (by repeat (first | exact PfOk.nil | (apply PfOk.keep; focus ((repeat constructor); done)) | (apply PfOk.dep; focus kernel_rfl))) ?_)
  refine VY_nil ?_
  repeat (first | refine VO_d ?_ | refine VQ_d ?_  | (first | refine VO_nil ?_ | refine VQ_nil ?_) | (first | refine V_seq_region ?_ | refine V_seq (V_seq_region ?_) | refine V_seq_draw tmix (by kernel_rfl) ?_ | refine V_seq (V_seq_draw tmix (by kernel_rfl) ?_) | refine V_region ?_ | refine V_draw tmix (by kernel_rfl) ?_))
  (first | refine VO_q (Q_calll rfl hre0 rfl (by (repeat (first | exact trivial | exact rfl | exact ⟨_, rfl⟩ | refine And.intro ?_ ?_)); first | done | fail)) rfl ?_ | refine VQ_q (Q_calll rfl hre0 rfl (by (repeat (first | exact trivial | exact rfl | exact ⟨_, rfl⟩ | refine And.intro ?_ ?_)); first | done | fail)) rfl ?_ | (refine VO_bare rfl rfl rfl rfl ?_; refine VO_q (Q_calll rfl hre0 rfl (by (repeat (first | exact trivial | exact rfl | exact ⟨_, rfl⟩ | refine And.intro ?_ ?_)); first | done | fail)) rfl ?_) | refine VQ_run rfl rfl rfl rfl (Q_calll rfl hre0 rfl (by (repeat (first | exact trivial | exact rfl | exact ⟨_, rfl⟩ | refine And.intro ?_ ?_)); first | done | fail)) rfl ?_)
  repeat (first | refine VO_d ?_ | refine VQ_d ?_  | (first | refine VO_nil ?_ | refine VQ_nil ?_) | (first | refine V_seq_region ?_ | refine V_seq (V_seq_region ?_) | refine V_seq_draw tmix (by kernel_rfl) ?_ | refine V_seq (V_seq_draw tmix (by kernel_rfl) ?_) | refine V_region ?_ | refine V_draw tmix (by kernel_rfl) ?_))
  (first | refine VO_q (Q_calll rfl hre1 rfl (by (repeat (first | exact trivial | exact rfl | exact ⟨_, rfl⟩ | refine And.intro ?_ ?_)); first | done | fail)) rfl ?_ | refine VQ_q (Q_calll rfl hre1 rfl (by (repeat (first | exact trivial | exact rfl | exact ⟨_, rfl⟩ | refine And.intro ?_ ?_)); first | done | fail)) rfl ?_ | (refine VO_bare rfl rfl rfl rfl ?_; refine VO_q (Q_calll rfl hre1 rfl (by (repeat (first | exact trivial | exact rfl | exact ⟨_, rfl⟩ | refine And.intro ?_ ?_)); first | done | fail)) rfl ?_) | refine VQ_run rfl rfl rfl rfl (Q_calll rfl hre1 rfl (by (repeat (first | exact trivial | exact rfl | exact ⟨_, rfl⟩ | refine And.intro ?_ ?_)); first | done | fail)) rfl ?_)
  repeat (first | refine VO_d ?_ | refine VQ_d ?_  | (first | refine VO_nil ?_ | refine VQ_nil ?_) | (first | refine V_seq_region ?_ | refine V_seq (V_seq_region ?_) | refine V_seq_draw tmix (by kernel_rfl) ?_ | refine V_seq (V_seq_draw tmix (by kernel_rfl) ?_) | refine V_region ?_ | refine V_draw tmix (by kernel_rfl) ?_))
  try simp only [beq_self_eq_true, bne_self_eq_false, Bool.not_true, Bool.not_false]
  repeat (first | refine VO_d ?_ | refine VQ_d ?_  | (first | refine VO_nil ?_ | refine VQ_nil ?_) | (first | refine V_seq_region ?_ | refine V_seq (V_seq_region ?_) | refine V_seq_draw tmix (by kernel_rfl) ?_ | refine V_seq (V_seq_draw tmix (by kernel_rfl) ?_) | refine V_region ?_ | refine V_draw tmix (by kernel_rfl) ?_))
  (first | refine V_cond rfl (fun hc => ?_) (fun hc => ?_) | refine V_seq (V_cond rfl (fun hc => ?_) (fun hc => ?_)))
  · exfalso
    first | (simp at hc; done) | cases hc
  refine V_skip ?_
  clear hc
  repeat (first | refine VO_d ?_ | refine VQ_d ?_  | (first | refine VO_nil ?_ | refine VQ_nil ?_) | (first | refine V_seq_region ?_ | refine V_seq (V_seq_region ?_) | refine V_seq_draw tmix (by kernel_rfl) ?_ | refine V_seq (V_seq_draw tmix (by kernel_rfl) ?_) | refine V_region ?_ | refine V_draw tmix (by kernel_rfl) ?_))
  (first | refine VO_q (Q_calll rfl hrh0 rfl (by (repeat (first | exact trivial | exact rfl | exact ⟨_, rfl⟩ | refine And.intro ?_ ?_)); first | done | fail)) rfl ?_ | refine VQ_q (Q_calll rfl hrh0 rfl (by (repeat (first | exact trivial | exact rfl | exact ⟨_, rfl⟩ | refine And.intro ?_ ?_)); first | done | fail)) rfl ?_ | (refine VO_bare rfl rfl rfl rfl ?_; refine VO_q (Q_calll rfl hrh0 rfl (by (repeat (first | exact trivial | exact rfl | exact ⟨_, rfl⟩ | refine And.intro ?_ ?_)); first | done | fail)) rfl ?_) | refine VQ_run rfl rfl rfl rfl (Q_calll rfl hrh0 rfl (by (repeat (first | exact trivial | exact rfl | exact ⟨_, rfl⟩ | refine And.intro ?_ ?_)); first | done | fail)) rfl ?_)
  repeat (first | refine VO_d ?_ | refine VQ_d ?_  | (first | refine VO_nil ?_ | refine VQ_nil ?_) | (first | refine V_seq_region ?_ | refine V_seq (V_seq_region ?_) | refine V_seq_draw tmix (by kernel_rfl) ?_ | refine V_seq (V_seq_draw tmix (by kernel_rfl) ?_) | refine V_region ?_ | refine V_draw tmix (by kernel_rfl) ?_))
  (first | refine V_cond rfl (fun hc => ?_) (fun hc => ?_) | refine V_seq (V_cond rfl (fun hc => ?_) (fun hc => ?_)))
  · exfalso
    simp only [decide_eq_true_eq] at hc
    change (U.mks r0 (1)).2 < 0 at hc
    omega
  refine V_skip ?_
  clear hc
  repeat (first | refine VO_d ?_ | refine VQ_d ?_  | (first | refine VO_nil ?_ | refine VQ_nil ?_) | (first | refine V_seq_region ?_ | refine V_seq (V_seq_region ?_) | refine V_seq_draw tmix (by kernel_rfl) ?_ | refine V_seq (V_seq_draw tmix (by kernel_rfl) ?_) | refine V_region ?_ | refine V_draw tmix (by kernel_rfl) ?_))
  (first | refine VO_q (Q_calll rfl hrh1 rfl (by (repeat (first | exact trivial | exact rfl | exact ⟨_, rfl⟩ | refine And.intro ?_ ?_)); first | done | fail)) rfl ?_ | refine VQ_q (Q_calll rfl hrh1 rfl (by (repeat (first | exact trivial | exact rfl | exact ⟨_, rfl⟩ | refine And.intro ?_ ?_)); first | done | fail)) rfl ?_ | (refine VO_bare rfl rfl rfl rfl ?_; refine VO_q (Q_calll rfl hrh1 rfl (by (repeat (first | exact trivial | exact rfl | exact ⟨_, rfl⟩ | refine And.intro ?_ ?_)); first | done | fail)) rfl ?_) | refine VQ_run rfl rfl rfl rfl (Q_calll rfl hrh1 rfl (by (repeat (first | exact trivial | exact rfl | exact ⟨_, rfl⟩ | refine And.intro ?_ ?_)); first | done | fail)) rfl ?_)
  repeat (first | refine VO_d ?_ | refine VQ_d ?_  | (first | refine VO_nil ?_ | refine VQ_nil ?_) | (first | refine V_seq_region ?_ | refine V_seq (V_seq_region ?_) | refine V_seq_draw tmix (by kernel_rfl) ?_ | refine V_seq (V_seq_draw tmix (by kernel_rfl) ?_) | refine V_region ?_ | refine V_draw tmix (by kernel_rfl) ?_))
  (first | refine V_cond rfl (fun hc => ?_) (fun hc => ?_) | refine V_seq (V_cond rfl (fun hc => ?_) (fun hc => ?_)))
  · exfalso
    simp only [decide_eq_true_eq] at hc
    change (U.mks r1_2 ((U.mks r0 (1)).2)).2 < 0 at hc
    omega
  refine V_skip ?_
  clear hc
  repeat (first | refine VO_d ?_ | refine VQ_d ?_  | (first | refine VO_nil ?_ | refine VQ_nil ?_) | (first | refine V_seq_region ?_ | refine V_seq (V_seq_region ?_) | refine V_seq_draw tmix (by kernel_rfl) ?_ | refine V_seq (V_seq_draw tmix (by kernel_rfl) ?_) | refine V_region ?_ | refine V_draw tmix (by kernel_rfl) ?_))
  (first | refine V_cond rfl (fun hc => ?_) (fun hc => ?_) | refine V_seq (V_cond rfl (fun hc => ?_) (fun hc => ?_)))
  · exfalso
    first | (simp at hc; done) | cases hc
  refine V_skip ?_
  clear hc
  repeat (first | refine VO_d ?_ | refine VQ_d ?_  | (first | refine VO_nil ?_ | refine VQ_nil ?_) | (first | refine V_seq_region ?_ | refine V_seq (V_seq_region ?_) | refine V_seq_draw tmix (by kernel_rfl) ?_ | refine V_seq (V_seq_draw tmix (by kernel_rfl) ?_) | refine V_region ?_ | refine V_draw tmix (by kernel_rfl) ?_))
  refine V_ret ?_
  exact ⟨trivial, ⟨_, rfl, rfl⟩, trivial⟩
end

theorem own : ownKnob Tryz.prog.godebug = none := by kernel_rfl
theorem laidOut : laidOutB Tryz.prog = true := by kernel_rfl

set_option maxRecDepth 100000 in
theorem lifted (os : Os) (started : os.Started) (H : Type) (enc : TypeId × Value → H) :
    ReturnsInHanded {} Tryz.checked os 4 .any (Rows.fnExactMethodTypeSpec.pre6 enc Tryz.prog Tryz.f4 Rows.fnExactMethodTypeRow.domain false) (Rows.fnExactMethodTypeSpec.post enc Tryz.prog Tryz.f4 false true false false) := by
  refine returnsInHanded_of_change_sized (C := Tryz.checked) own started (by kernel_rfl) Tryz.func4
    (ChangeSpec.witness6 (enc := enc) (C := Tryz.checked) false ⟨#[], #[.agg #[.slice none 0 0], .string ByteArray.empty, .string ByteArray.empty, .agg #[.int .i64 0, .string ByteArray.empty, .slice none 0 0]], []⟩ 8 (by kernel_rfl) (by kernel_rfl) (by kernel_rfl) (by kernel_rfl)) ?_
  intro W base args ds gs before hval0 hW hcnd hsz _
  have hval : ∀ (j : Nat) t v, Tryz.f4.params[j]? = some t → args[j]? = some v → Value.okWide Tryz.prog W .any base t v := hval0
  have hW' := hW
  obtain ⟨p, q, hA0, hV, rfl, hfz, hnd⟩ := hW
  have hA : DataW.TrodAll enc Tryz.prog W 0 (fun _ => true) true Tryz.f4.params.toList args.toList ds p := hA0
  rw [Tryz.params4] at hA hval
  obtain ⟨v0, vs0, d0, ds0, p0, q0, hargs, rfl, rfl, h0, r0⟩ := trodAll_cons hA
  obtain ⟨v1, vs1, d1, ds1, p1, q1, rfl, rfl, rfl, h1, r1⟩ := trodAll_cons r0
  obtain ⟨v2, vs2, d2, ds2, p2, q2, rfl, rfl, rfl, h2, r2⟩ := trodAll_cons r1
  obtain ⟨v3, vs3, d3, ds3, p3, q3, rfl, rfl, rfl, h3, r3⟩ := trodAll_cons r2
  obtain ⟨rfl, rfl, rfl⟩ := trodAll_nil r3
  obtain rfl : args = #[v0, v1, v2, v3] := by cases args; simp_all
  obtain ⟨rfl, rfl⟩ := trodVars_none hV
  have hwt : ∀ x ∈ DataW.weightsEach Tryz.prog (Tryz.f4.params.toList ++ Rows.fnExactMethodTypeSpec.plain.varTypes Tryz.prog) ([d0, d1, d2, d3] ++ []), x ≤ reachBytes := by
    intro x hx
    have := List.all_eq_true.1 hsz x hx
    simpa using this
  rw [Tryz.params4] at hwt
  have k0 := h0
  have lt0 : ∀ x ∈ p0, x.block < W.heap.size := by obtain ⟨m, hm⟩ := k0; exact DataW.trod_lt m _ _ _ hm
  obtain ⟨u0, s0, w0⟩ := bridgeV tm_ok h0 (show tmS 24 = some (.st 15) from rfl) (fun x hx => hwt x (by simp [DataW.weightsEach, hx])) (ok_agg tm_ok (show tmS 24 = some (.st 15) from rfl) (hval 0 _ v0 rfl rfl))
  have k1 := h1
  have lt1 : ∀ x ∈ p1, x.block < W.heap.size := by obtain ⟨m, hm⟩ := k1; exact DataW.trod_lt m _ _ _ hm
  obtain ⟨u1, s1, w1⟩ := bridgeV tm_ok h1 (show tmS 9 = some (.str) from rfl) (fun x hx => hwt x (by simp [DataW.weightsEach, hx])) (ok_agg tm_ok (show tmS 9 = some (.str) from rfl) (hval 1 _ v1 rfl rfl))
  have k2 := h2
  have lt2 : ∀ x ∈ p2, x.block < W.heap.size := by obtain ⟨m, hm⟩ := k2; exact DataW.trod_lt m _ _ _ hm
  obtain ⟨u2, s2, w2⟩ := bridgeV tm_ok h2 (show tmS 9 = some (.str) from rfl) (fun x hx => hwt x (by simp [DataW.weightsEach, hx])) (ok_agg tm_ok (show tmS 9 = some (.str) from rfl) (hval 2 _ v2 rfl rfl))
  have k3 := h3
  have lt3 : ∀ x ∈ p3, x.block < W.heap.size := by obtain ⟨m, hm⟩ := k3; exact DataW.trod_lt m _ _ _ hm
  obtain ⟨u3, s3, w3⟩ := bridgeV tm_ok h3 (show tmS 27 = some (.st 1) from rfl) (fun x hx => hwt x (by simp [DataW.weightsEach, hx])) (ok_agg tm_ok (show tmS 27 = some (.st 1) from rfl) (hval 3 _ v3 rfl rfl))
  clear hA0 hval0
  refine (calls_of_SpecP (walk w0 w1 w2 w3) (vs := [v0, v1, v2, v3]) (by simp only [SVrs]; exact ⟨s0, s1, s2, s3, trivial⟩)).mono fun e W' ⟨r, he, hr, bel⟩ => ?_
  subst he
  obtain rfl := ret_true hr
  exact ⟨_, rfl, _, _, _, [], _, [], hW', trodAll_mk1 (shut_bool Tryz.underlying4 _), (trodAll_cons_mk (Below.trod laidOut (by kernel_rfl) (of_decide_eq_true (by kernel_rfl)) k0 bel lt0) (trodAll_cons_mk (Below.trod laidOut (by kernel_rfl) (of_decide_eq_true (by kernel_rfl)) k1 bel lt1) (trodAll_cons_mk (Below.trod laidOut (by kernel_rfl) (of_decide_eq_true (by kernel_rfl)) k2 bel lt2) (trodAll_cons_mk (Below.trod laidOut (by kernel_rfl) (of_decide_eq_true (by kernel_rfl)) k3 bel lt3) trodAll_mk0)))), rfl, bel.frame _, fun h => by cases h⟩

theorem proved : Rows.FnExactMethodTypeSaid :=
  OpenClaim.holds_of_wide 4 Tryz.f4 rfl rfl rfl rfl rfl rfl rfl ⟨rfl, rfl, rfl, rfl, rfl⟩ rfl rfl rfl rfl rfl (by kernel_rfl) Tryz.func4 jfFnExactMethodType
    (of_decide_eq_true (by kernel_rfl)) (by unfold Func.isWrapper; first | (rw [if_pos (by decide +kernel)]; kernel_rfl) | (rw [if_neg (by decide +kernel)]; exact ⟨rfl, rfl⟩))
    (fun os started H enc _ => lifted os started H enc)
#print axioms proved
end Go.Proofs.YtihihldpcgiibaaGreat.lFnExactMethodType

