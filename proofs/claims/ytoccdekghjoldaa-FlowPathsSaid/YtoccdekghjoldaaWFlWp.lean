/- A bound on the sizes that the laws look at. -/
import Derived.Test.YtoccdekghjoldaaWFlW
set_option linter.all false
namespace Go.Proofs.Ytoccdekghjoldaa
open Go.Eng Go.Flow
set_option maxRecDepth 100000
set_option maxHeartbeats 4000000

theorem great_len4 {n : Int} {k : Nat} (h : great n k = false) : k ≤ 24 := by
  apply Classical.byContradiction
  intro hc
  unfold great at h
  simp at h
  omega
end Go.Proofs.Ytoccdekghjoldaa
