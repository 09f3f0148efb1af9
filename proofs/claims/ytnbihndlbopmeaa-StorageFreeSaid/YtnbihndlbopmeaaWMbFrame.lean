/- Frames at the level of contracts. No conditions. -/
import Derived.Test.YtnbihndlbopmeaaWMbFull
set_option linter.all false
namespace Go.Eng
variable {C : Cx} {D : List Deferred} {R H : List PH} {L : Env} {K : List It}
theorem Upd.frame {N : Bs} {H H1 F : List PH} {w w' : World} (hs : Sat N R (H ++ F) w) (u : Upd H H1 w w') : Upd (H ++ F) (H1 ++ F) w w' where
  size := u.size
  keep := fun b hb hno => u.keep b hb (fun ρ hρ => hno ρ (by simp [hρ]))
  own := fun ρ hρ => (hs.upd u).h ρ hρ
  hd := (hs.upd u).hd
  new := fun ρ hρ b hb => by
    rcases List.mem_append.1 hρ with h | h
    · rcases u.new ρ h b hb with ⟨σ, hσ, h2⟩ | h2
      · exact .inl ⟨σ, by simp [hσ], h2⟩
      · exact .inr h2
    · exact .inl ⟨ρ, by simp [h], hb⟩
theorem Spec.frame {P : Program} {f : Value} {args : List Value} {R H : List PH} {post : Value → List PH → Prop} (F : List PH) (h : Spec P f args R H post) : Spec P f args R (H ++ F) (fun v H' => ∃ H1, H' = H1 ++ F ∧ post v H1) := by
  intro N w hs
  refine (h N w hs.left).mono ?_
  rintro v w' ⟨H1, hp, hu⟩
  exact ⟨H1 ++ F, ⟨H1, rfl, hp⟩, hu.frame hs⟩
theorem Upd.perm {H H' H1 H1' : List PH} {w w' : World} (hp : H.Perm H') (hq : H1.Perm H1') (u : Upd H H1 w w') : Upd H' H1' w w' where
  size := u.size
  keep := fun b hb hno => u.keep b hb (fun ρ hρ => hno ρ (hp.mem_iff.1 hρ))
  own := fun ρ hρ => u.own ρ (hq.mem_iff.2 hρ)
  hd := (hq.pairwise_iff (fun hd => PH.disj.symm hd)).1 u.hd
  new := fun ρ hρ b hb => by
    rcases u.new ρ (hq.mem_iff.2 hρ) b hb with ⟨σ, hσ, h2⟩ | h2
    · exact .inl ⟨σ, hp.mem_iff.1 hσ, h2⟩
    · exact .inr h2
theorem Spec.perm {P : Program} {f : Value} {args : List Value} {R H H' : List PH} {post post' : Value → List PH → Prop} (hp : H.Perm H') (h : Spec P f args R H post) (hq : ∀ v H1, post v H1 → ∃ H2, H1.Perm H2 ∧ post' v H2) : Spec P f args R H' post' := by
  intro N w hs
  refine (h N w (hs.perm hp.symm)).mono ?_
  rintro v w' ⟨H1, h1, hu⟩
  obtain ⟨H2, h2, h3⟩ := hq v H1 h1
  exact ⟨H2, h3, hu.perm hp h2⟩
theorem Takes.skips : ∀ (A : List PH) {H T H' : List PH}, Takes H T H' → Takes (A ++ H) T (A ++ H')
  | [], _, _, _, h => h
  | _ :: A, _, _, _, h => Takes.skip (Takes.skips A h)
theorem erase_set_perm {α : Type} : ∀ {A : List α} {i : Nat} (y : α), i < A.length → (A.set i y).Perm (y :: A.eraseIdx i)
  | [], i, y, h => by simp at h
  | a :: A, 0, y, _ => by simp
  | a :: A, i + 1, y, h => by
    simp only [List.set_cons_succ, List.eraseIdx_cons_succ]
    exact ((erase_set_perm y (by simpa using h)).cons a).trans (List.Perm.swap _ _ _)
theorem erase_get_perm {α : Type} : ∀ {A : List α} {i : Nat} {y : α}, A[i]? = some y → A.Perm (y :: A.eraseIdx i)
  | [], i, y, h => by simp at h
  | a :: A, 0, y, h => by simp at h; subst h; simp
  | a :: A, i + 1, y, h => by
    simp only [List.eraseIdx_cons_succ]
    exact ((erase_get_perm (i := i) (by simpa using h)).cons a).trans (List.Perm.swap _ _ _)
theorem jk_empN : ∀ (m : Nat), JK C D R (List.replicate m emp ++ H) L K → JK C D R H L K
  | 0, h => h
  | m + 1, h => jk_empN m (jk_emp (by simpa [List.replicate_succ] using h))
theorem jk_empEnd (m : Nat) (h : JK C D R (H ++ List.replicate m emp) L K) : JK C D R H L K :=
  jk_empN m (jk_perm (List.perm_append_comm) h)
end Go.Eng
