/- In a region that draws: an act behind which nothing is open. No conditions. -/
import Derived.Test.YtnbihndlbopmeaaWMbMarks
import Derived.Test.YtnbihndlbopmeaaWMbPath
set_option linter.all false
namespace Go.Eng
variable {C : Cx} {D : List Deferred} {R Hf H : List PH} {L : Env} {K : List It} {ps ls : List Nat}
theorem a_full {all : Array Oper} {done : List Nat} {i : Nat} {rest : Pl} {o : Oper} {post : Value → List PH → Prop} {L' : Value → Env} {Hf' : List PH} (ho : all[i]? = some o) (hl : Loud C R H L o post) (hg : wantE all L o = some true)
    (hL : (∃ d, o.dst = some d ∧ Nat.blt d C.M = true ∧ L' = fun v => (d, v) :: L) ∨ (o.dst = none ∧ L' = fun _ => L))
    (hfull : ((done.all fun j => (closeP all (all.size * all.size) (predsOf all i ++ ls) []).contains j) && ls.all (fun j => Nat.blt j all.size)) = true)
    (hsub : ∀ v H', post v H' → ∀ w, Sat C.N R H' w → Sat C.N R Hf' w)
    (h : ∀ v H', post v H' → DJ C D R Hf' H' (L' v) all (i :: done) ps (i :: ls) rest K) : ActOK C D R Hf H L all done ps ls i .b rest K := by
  intro hlo hpl hrd fuel listed a w hinv hm
  simp only [loudOK] at hlo
  obtain ⟨k1, k2, k3⟩ := mem_readyL.1 hrd
  have hms : i < listed.size := by rw [hinv.size]; exact k1
  have hrdy := (mem_ready.1 hm).2.2
  have bnd : ∀ j, listed.getD j false = true → j < all.size ∧ isL listed j := fun j hlj => by
    have hjs : j < all.size := by
      rw [← hinv.size]
      cases hb : listed[j]? with
      | none => simp [Array.getD_eq_getD_getElem?, hb] at hlj
      | some b => exact (Array.getElem?_eq_some_iff.1 hb).1
    exact ⟨hjs, (getD_isL hinv.size hjs).1 hlj⟩
  have hall : ∀ j ∈ done, isL listed j := fun j hj => by
    rw [Bool.and_eq_true, List.all_eq_true, List.all_eq_true] at hfull
    have h3 := hfull.1 j hj
    refine (close_sub (all := all) (E := fun j => j < all.size ∧ isL listed j) (fun i hi => hinv.dc i hi.1 hi.2) _ (predsOf all i ++ ls) [] (fun j hj => ?_) (by simp) j (by simpa using h3)).2
    rcases List.mem_append.1 hj with hj | hj
    · exact bnd j (hrdy j hj)
    · exact ⟨Nat.le_of_ble_eq_true (hfull.2 j hj), hinv.lds j hj⟩
  have hpend : ∀ j ∈ done, ¬ isL listed j → ps.contains j = true ∧ freshOK all [j] i = true ∧ dataOK all [j] i = true := fun j hj hnj => by
    rw [List.all_eq_true] at hlo
    have h3 := hlo j hj
    simp only [Bool.or_eq_true, Bool.and_eq_true] at h3
    rcases h3 with (h3 | h3) | ⟨⟨h3, h4⟩, h5⟩
    rotate_left
    · exact absurd (hinv.lds j (by simpa using h3)) hnj
    rotate_left
    · exact absurd (close_sub (all := all) (E := fun j => j < all.size ∧ isL listed j) (fun i hi => hinv.dc i hi.1 hi.2) _ (predsOf all i) [] (fun j hj => bnd j (hrdy j hj)) (by simp) j (by simpa using h3)).2 hnj
    · exact ⟨h3, h4, h5⟩
  have hdata : ∀ j ∈ done, ¬ isL listed j → ∀ d ∈ dstOf all j, d ∉ rdsOf all i := fun j hj hnj d hd hr => by
    have := data_of (hpend j hj hnj).2.2 j (by simp) d hd hr
    exact hnj (bnd j (hrdy j this)).2
  have hon : ∀ t ∈ readsOf all o, ∀ v, look L t = some v → a.tmps.getD t undef = v := fun t ht v hv => by
    rcases hinv.get t v hv with hg' | ⟨j, hj, hnj, hjt⟩
    · exact hg'
    · exact absurd (by unfold rdsOf; rw [ho]; exact ht) (hdata j hj hnj t hjt)
  obtain ⟨l1, l2, l3⟩ := hinv.listed hm
  unfold wpOpIn
  rw [ho]
  simp only
  rw [if_pos (want_of hg hon)]
  refine hl.run a w (onE_of hon) hinv.sat _ _ (fun v H' w' hp hs' => (h v H' hp).run hpl _ _ _ _ ?_)
  have back : ∀ j ∈ done, ¬ isL (listed.setIfInBounds i true) j → ¬ isL listed j := fun j _ hn hl => hn ((isL_set hms).2 (.inr hl))
  have cs : ∀ j, j ∈ i :: done → ¬ isL (listed.setIfInBounds i true) j → j ∈ done := fun j hj hn => by
    simp at hj
    rcases hj with rfl | hj
    · exact absurd ((isL_set hms).2 (.inl rfl)) hn
    · exact hj
  have hlds : ∀ j ∈ i :: ls, isL (listed.setIfInBounds i true) j := fun j hj => by
    simp at hj
    rcases hj with rfl | hj
    · exact (isL_set hms).2 (.inl rfl)
    · exact (isL_set hms).2 (.inr (hinv.lds j hj))
  have hfr : ∀ j ∈ done, ¬ isL listed j → ∀ d ∈ dstOf all i, d ∉ rdsOf all j ∧ d ∉ dstOf all j := fun j hj hnj d hd => (fresh_of (hpend j hj hnj).2.1 hd).2 j (by simp)
  refine ⟨l1, l2, fun j hj hlj => ?_, l3, ?_, ?_, hs', fun t u hu => ?_, fun j hj hnl => ?_, fun w hw => hsub v H' hp w hw, hlds, fun j hj hnl k hk d' hd' hr => ?_, fun j hj hnl k hk hkj d' hd' => ?_, ⟨k1, k3, hinv.chron⟩⟩
  · rcases (isL_set hms).1 hlj with rfl | hlj
    · simp
    · simp [hinv.sub j hj hlj]
  · have := hinv.tm
    cases hd : o.dst <;> simpa [Act.put] using this
  · have := hinv.df
    cases hd : o.dst <;> simpa [Act.put] using this
  · rcases hL with ⟨d, hd, hM, rfl⟩ | ⟨hd, rfl⟩
    · rw [hd]
      simp only at hu
      rw [look_cons] at hu
      by_cases e : d = t
      · subst e
        simp only [if_true, Option.some.injEq] at hu; subst hu
        left
        simp [Act.put, hinv.tm, show d < C.M from Nat.le_of_ble_eq_true hM]
      · rw [if_neg e] at hu
        rcases hinv.get t u hu with hg' | ⟨j, hj, hnj, hjt⟩
        · left; simpa [Act.put, Array.getD_eq_getD_getElem?, e] using hg'
        · right
          refine ⟨j, by simp [hj], fun hlj => ?_, hjt⟩
          rcases (isL_set hms).1 hlj with rfl | hlj
          · exact k2 hj
          · exact hnj hlj
    · rw [hd]
      simp only [Act.put] at hu ⊢
      rcases hinv.get t u hu with hg' | ⟨j, hj, hnj, hjt⟩
      · exact .inl hg'
      · right
        refine ⟨j, by simp [hj], fun hlj => ?_, hjt⟩
        rcases (isL_set hms).1 hlj with rfl | hlj
        · exact k2 hj
        · exact hnj hlj
  · have hj' := cs j hj hnl
    have hnj := back j hj' hnl
    exact absurd (hall j hj') hnj
  · have hj' := cs j hj hnl
    by_cases ek : k = i
    · subst ek
      exact absurd hr (hfr j hj' (back j hj' hnl) d' hd').1
    · exact hinv.data j hj' (back j hj' hnl) k (by simp at hk; exact hk.resolve_left ek) d' hd' hr
  · have hj' := cs j hj hnl
    by_cases ek : k = i
    · subst ek
      intro hdk
      exact (hfr j hj' (back j hj' hnl) d' hdk).2 hd'
    · exact hinv.uniq j hj' (back j hj' hnl) k (by simp at hk; exact hk.resolve_left ek) hkj d' hd'
section
variable {dst : Option Tmp} {ty : TypeId} {pos : String} {aft : Array Edge} {g : Option (Nat × Bool)}
/-- half of a number -/
theorem q_half {x y : Operand} {xT yT : TypeId} {j : Nat} (h1 : evalE L x = some (.int .i64 (j : Int))) (h2 : evalE L y = some (.int .i64 2)) (hr : j ≤ 9223372036854775807) : Quiet C R H L ⟨dst, .binOp .quo xT x y yT, ty, pos, aft, g⟩ (.int .i64 ((j / 2 : Nat) : Int)) := by
  have := q_quo (C := C) (R := R) (H := H) (dst := dst) (ty := ty) (pos := pos) (aft := aft) (g := g) (xT := xT) (yT := yT) h1 h2 (by omega) (by omega) (by omega)
  rwa [show (j : Int) / 2 = ((j / 2 : Nat) : Int) from by omega] at this
theorem q_par {x y : Operand} {xT yT : TypeId} {j : Nat} (h1 : evalE L x = some (.int .i64 (j : Int))) (h2 : evalE L y = some (.int .i64 2)) : Quiet C R H L ⟨dst, .binOp .rem xT x y yT, ty, pos, aft, g⟩ (.int .i64 ((j % 2 : Nat) : Int)) := by
  have := q_rem (C := C) (R := R) (H := H) (dst := dst) (ty := ty) (pos := pos) (aft := aft) (g := g) (xT := xT) (yT := yT) h1 h2 (by omega) (by omega)
  rwa [show (j : Int) % 2 = ((j % 2 : Nat) : Int) from by omega] at this
/-- a row of empty slices -/
theorem l_makeV {x y : Operand} {t e : TypeId} {k1 k2 : IntKind} {n : Nat} (hx : evalE L x = some (.int k1 (n : Int))) (hy : evalE L y = some (.int k2 (n : Int))) (ht : elemP C.P t = some e) (hs : szP C.P e = some 1) (hz : zeroP C.P e = some (.slice none 0 0)) (hb : bytesP C.P e = some 24)
    (hn : n ≤ 9223372036854775807) (hby : 24 * n ≤ 281474976710656) :
    Loud C R H L ⟨dst, .makeSlice t x y, ty, pos, aft, g⟩ (fun u H2 => ∃ b, u = .slice (some ⟨b, 0, none⟩) n n ∧ H2 = sng b (.cells (List.replicate n (.slice none 0 0)).toArray e (0, 0)) :: H) := by
  have := l_make (C := C) (R := R) (H := H) (dst := dst) (ty := ty) (pos := pos) (aft := aft) (g := g) hx hy ht hs hz hb hn hby
  rwa [show (Value.slice none 0 0).cells = #[.slice none 0 0] from rfl, Nat.mul_one, madeCells_one, ← List.toArray_replicate] at this
end
/-- chunks of a list of variable length -/
theorem Take.left {ρ : PH} {A A' : List PH} (B : List PH) (h : Take ρ A A') : Take ρ (A ++ B) (A' ++ B) := by
  induction h with
  | here => exact Take.here
  | there _ ih => exact Take.there ih
theorem Take.right {ρ : PH} {B B' : List PH} (h : Take ρ B B') : ∀ A : List PH, Take ρ (A ++ B) (A ++ B')
  | [] => h
  | _ :: A => Take.there (Take.right h A)
theorem Take.idx : ∀ {A : List PH} {i : Nat} {ρ : PH}, A[i]? = some ρ → Take ρ A (A.eraseIdx i)
  | [], i, ρ, h => by simp at h
  | a :: A, 0, ρ, h => by simp at h; subst h; exact Take.here
  | a :: A, i + 1, ρ, h => Take.there (Take.idx (by simpa using h))
theorem Take.perm {ρ : PH} {A A' : List PH} (h : Take ρ A A') : A.Perm (ρ :: A') := by
  induction h with
  | here => exact List.Perm.refl _
  | there _ ih => exact (ih.cons _).trans (List.Perm.swap _ _ _)
theorem Sel.of_perm_sub : ∀ {H' H : List PH}, (∃ F, H.Perm (H' ++ F)) → Sel H H'
  | [], _, _ => Sel.nil
  | ρ :: H', H, ⟨F, hp⟩ => by
    have hm : ρ ∈ H := hp.mem_iff.2 (by simp)
    obtain ⟨i, hi, he⟩ := List.getElem_of_mem hm
    have ht := Take.idx (A := H) (i := i) (ρ := ρ) (by rw [List.getElem?_eq_getElem hi, he])
    refine Sel.cons ht (Sel.of_perm_sub ⟨F, ?_⟩)
    have h2 : H.Perm (ρ :: H.eraseIdx i) := ht.perm
    exact List.Perm.cons_inv (h2.symm.trans hp)
theorem Takes.of_perm : ∀ {T H H2 : List PH}, H.Perm (T ++ H2) → ∃ H3, Takes H T H3 ∧ H3.Perm H2
  | [], H, H2, hp => ⟨H, Takes.nil, hp⟩
  | ρ :: T, H, H2, hp => by
    have hm : ρ ∈ H := hp.mem_iff.2 (by simp)
    obtain ⟨i, hi, he⟩ := List.getElem_of_mem hm
    have ht := Take.idx (A := H) (i := i) (ρ := ρ) (by rw [List.getElem?_eq_getElem hi, he])
    have h2 : H.Perm (ρ :: H.eraseIdx i) := ht.perm
    obtain ⟨H3, h3, h4⟩ := Takes.of_perm (T := T) (H := H.eraseIdx i) (H2 := H2) (List.Perm.cons_inv (h2.symm.trans hp))
    exact ⟨H3, Takes.cons ht h3, h4⟩
/-- all chunks, in another order -/
theorem jk_perm {H' : List PH} (hp : H.Perm H') (h : JK C D R H' L K) : JK C D R H L K :=
  ⟨fun a w hf hd hs => h.run a w hf hd (hs.perm hp)⟩
/-- many chunks become one -/
theorem jk_joinAll : ∀ {A B : List PH}, (∀ γ, (∀ ρ ∈ A, PH.sub ρ γ) → JK C D R (γ :: B) L K) → JK C D R (A ++ B) L K
  | [], B, h => jk_emp (h emp (by simp))
  | ρ :: A, B, h => by
    refine jk_perm (H' := A ++ (ρ :: B)) (by simpa using List.perm_middle.symm) (jk_joinAll (fun γ hγ => ?_))
    refine jk_join (Take.there Take.here) Take.here (fun δ g1 g2 => h δ (fun σ hσ => ?_))
    simp at hσ
    rcases hσ with rfl | hσ
    · exact g1
    · exact (hγ σ hσ).trans g2
end Go.Eng
