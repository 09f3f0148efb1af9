/- Something to be read: in what is never written, or in what the call made. No conditions. -/
import Derived.Test.YtoccdekghjoldaaWMbFrame
set_option linter.all false
namespace Go.Eng
variable {C : Cx} {D : List Deferred} {R H : List PH} {L : Env} {K : List It}
theorem jk_either {P : PH → Prop} {σ χ : PH} {H' : List PH} (hσ : Mem σ R) (t : Take χ H H') (h : P σ ∨ P χ) (k : ∀ σ', P σ' → JK C D (σ' :: R) H' L K) : JK C D R H L K := by
  rcases h with h | h
  · refine ⟨fun a w hf hd hs => (k σ h).run a w hf hd ?_⟩
    have h1 := (hs.take t).tail
    refine ⟨h1.sz, fun ρ hρ => ?_, h1.h, h1.hd, fun ρ hρ => ?_⟩
    · simp at hρ
      rcases hρ with rfl | hρ
      · exact h1.r _ hσ.mem
      · exact h1.r ρ hρ
    · simp at hρ
      rcases hρ with rfl | hρ
      · exact h1.rd _ hσ.mem
      · exact h1.rd ρ hρ
  · exact jk_freeze t (k χ h)
end Go.Eng
