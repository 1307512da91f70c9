/- TraceChecks: the closed facts of its row, each by itself (together they outgrow the kernel's memory). -/
import Derived.Test.YtfooefkgdcjlhaaRows
import Derived.JoinedOf
namespace Go.Proofs.Ytfooefkgdcjlhaa.traceChecks
theorem and_in {a b : Bool} (ha : a = true) (hb : b = true) : (a && b) = true := by rw [ha, hb]; rfl
set_option maxHeartbeats 0 in
theorem closed : joinedFacts Try.pinned.checked.prog 3 Try.f3 Rows.traceChecksSpec Rows.traceChecksRow = true := by
  unfold joinedFacts
  repeat' (with_reducible refine and_in ?_ ?_)
  all_goals (as_aux_lemma => kernel_rfl)

end Go.Proofs.Ytfooefkgdcjlhaa.traceChecks
