/- The example of the chapter; the law on free spans. -/
import Derived.Test.YtnbihndlbopmeaaWSgN
set_option linter.all false
namespace Go.Proofs.Ytnbihndlbopmeaa
open Go.Eng Go.Step
set_option maxRecDepth 100000
set_option maxHeartbeats 4000000

def ex28 : List Hd := [⟨0, 10, 20, 60, 0⟩, ⟨0, 15, 30, 30, 0⟩]
theorem ex28_hts : hts ex28 0 = [10, 15, 20, 30] := by
  obtain ⟨h1, h2⟩ := hts_sa ex28 0
  refine SA.unique h1 (by simp [SA]) (fun x => ?_)
  rw [h2 x, mem_tmH]
  simp only [ex28, List.mem_cons, List.not_mem_nil, or_false, exists_eq_or_imp, exists_eq_left, true_and]
  omega
theorem ex28_lv : lvH ex28 0 = [⟨10, 60⟩, ⟨15, 90⟩, ⟨20, 30⟩, ⟨30, 0⟩] := by
  unfold lvH
  rw [ex28_hts]
  decide
theorem ex28_chk : chkH [100] [] ex28 = 0 := by decide
theorem ex28_prof : profR [100] [] ex28 0 = ([⟨10, 60⟩, ⟨15, 90⟩, ⟨20, 30⟩, ⟨30, 0⟩], 0) := by
  unfold profR
  rw [if_neg (fun h => h ex28_chk), if_neg (by decide), ex28_lv, if_neg (by decide)]
theorem ex28_free (s : Int) (h : ¬ (s < 1 ∨ 65536 < s)) : freeRes [100] [] ex28 0 s = (freeP 100 s [⟨10, 60⟩, ⟨15, 90⟩, ⟨20, 30⟩, ⟨30, 0⟩], 0) := by
  unfold freeRes
  rw [if_neg (fun h => h ex28_chk), if_neg (by simp at h ⊢; omega), ex28_lv]
  rfl
theorem ex28_f50 : freeRes [100] [] ex28 0 50 = ([(0, 10), (20, 1099511627776)], 0) := by rw [ex28_free 50 (by decide)]; decide
theorem ex28_f10 : freeRes [100] [] ex28 0 10 = ([(0, 1099511627776)], 0) := by rw [ex28_free 10 (by decide)]; decide
end Go.Proofs.Ytnbihndlbopmeaa
