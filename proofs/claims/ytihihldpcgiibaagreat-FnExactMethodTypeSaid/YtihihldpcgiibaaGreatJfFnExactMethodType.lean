/- The closed facts of the row of MethodType, one by one. -/
import Derived.Test.YtihihldpcgiibaaGreatRows
import Derived.WalkKit
import Derived.ProofKit
set_option linter.unusedVariables false
namespace Go.Proofs.YtihihldpcgiibaaGreat
open Go
set_option maxHeartbeats 4000000 in
theorem jfFnExactMethodType : joinedFacts Tryz.prog 4 Tryz.f4 Rows.fnExactMethodTypeSpec Rows.fnExactMethodTypeRow = true := by
  unfold joinedFacts
  iterate 40 (first | refine Bool.and_eq_true_iff.2 (And.intro ?_ (by as_aux_lemma => kernel_rfl)) | skip)
  as_aux_lemma => kernel_rfl
end Go.Proofs.YtihihldpcgiibaaGreat
