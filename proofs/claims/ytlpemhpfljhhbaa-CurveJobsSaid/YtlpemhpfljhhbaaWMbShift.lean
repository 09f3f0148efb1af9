/- Rates some time later. No program in sight. No conditions. -/
import Derived.Test.YtlpemhpfljhhbaaWMbJobs
set_option linter.all false
namespace Go.Step
def shiftL (d : Int) : List Lv → List Lv
  | [] => []
  | l :: f => if l.a + d ≤ 1099511627776 then ⟨l.a + d, l.v⟩ :: shiftL d f else shiftL d f
theorem shiftL_append (d : Int) : ∀ (f g : List Lv), shiftL d (f ++ g) = shiftL d f ++ shiftL d g
  | [], g => rfl
  | l :: f, g => by
    simp only [List.cons_append, shiftL]
    split
    · rw [shiftL_append d f g]; rfl
    · exact shiftL_append d f g
theorem shiftL_len (d : Int) : ∀ f : List Lv, (shiftL d f).length ≤ f.length
  | [] => by simp [shiftL]
  | l :: f => by
    have := shiftL_len d f
    simp only [shiftL]
    split <;> simp <;> omega
theorem shiftL_stop {d : Int} : ∀ {f : List Lv} {p : Int}, Asc p f → 1099511627776 < p + d → shiftL d f = []
  | [], _, _, _ => rfl
  | l :: f, p, h, hp => by
    simp only [shiftL]
    rw [if_neg (by have := h.1; omega)]
    exact shiftL_stop h.2.2.2 (by have := h.1; omega)
theorem shiftL_chk {d : Int} (hd : 0 ≤ d) : ∀ {f : List Lv} {pa pv pa' : Int}, chkL pa pv f = 0 → pa' ≤ pa + d → chkL pa' pv (shiftL d f) = 0
  | [], _, _, _, _, _ => rfl
  | l :: f, pa, pv, pa', h, hp => by
    have hA := chkL_asc _ _ _ h
    simp only [chkL] at h
    split at h
    · simp at h
    · rename_i h1
      split at h
      · simp at h
      · rename_i h2
        simp only [shiftL]
        split
        · rename_i h3
          simp only [chkL]
          unfold badL at h1
          rw [if_neg (by unfold badL; dsimp only; omega), if_neg (by omega)]
          exact shiftL_chk hd h (Int.le_refl _)
        · rw [shiftL_stop hA.2.2.2 (by omega)]; rfl
theorem shiftL_rates {d : Int} {f : List Lv} (h : rates f = true) : rates (shiftL d f) = true := by
  unfold rates at h ⊢
  induction f with
  | nil => rfl
  | cons l f ih =>
    simp only [List.all_cons, Bool.and_eq_true] at h
    simp only [shiftL]
    split
    · simp only [List.all_cons, Bool.and_eq_true]; exact ⟨h.1, ih h.2⟩
    · exact ih h.2
theorem shiftL_chkC {d : Int} (hd : 0 ≤ d) {f : List Lv} (h : chkC f = 0) : chkC (shiftL d f) = 0 := by
  have h0 : chkS f = 0 := by
    unfold chkC at h
    by_cases h0 : chkS f = 0
    · exact h0
    · rw [if_pos h0] at h; exact absurd h h0
  have hr : rates f = true := by
    unfold chkC at h
    rw [if_neg (by rw [h0]; simp)] at h
    cases hr : rates f with
    | true => rfl
    | false => rw [hr] at h; simp at h
  have hl := (chkS_ok h0).1
  have hl2 := shiftL_len d f
  have hS : chkS (shiftL d f) = 0 := by
    unfold chkS at h0 ⊢
    rw [if_neg (by omega)] at h0 ⊢
    exact shiftL_chk hd h0 (by omega)
  unfold chkC
  rw [if_neg (by rw [hS]; simp), shiftL_rates hr]; rfl
theorem shiftL_vat {d x : Int} (hx : x ≤ 1099511627776) : ∀ {f : List Lv} {p cur : Int}, Asc p f → vat cur (shiftL d f) x = vat cur f (x - d)
  | [], _, _, _ => rfl
  | l :: f, p, cur, h => by
    simp only [shiftL]
    split
    · simp only [vat]
      by_cases h1 : l.a + d ≤ x
      · rw [if_pos h1, if_pos (by omega)]; exact shiftL_vat hx h.2.2.2
      · rw [if_neg h1, if_neg (by omega)]
    · rw [shiftL_stop h.2.2.2 (by omega)]
      simp only [vat]
      rw [if_neg (by omega)]
theorem shiftL_val {d x : Int} (hx : x ≤ 1099511627776) {f : List Lv} {p : Int} (h : Asc p f) : val (shiftL d f) x = val f (x - d) := shiftL_vat hx h
theorem val_early {f : List Lv} {p x : Int} (h : Asc p f) (hx : x ≤ p) : val f x = 0 := vat_late f 0 x (fun l hl => by
  have := (h.gt l (List.mem_of_mem_head? (by simpa using hl))).1
  omega)
theorem cum_zero {g : List Lv} : ∀ (n : Nat), (∀ u : Nat, u < n → val g (u : Int) = 0) → cum g n = 0
  | 0, _ => rfl
  | n + 1, h => by
    simp only [cum]
    rw [cum_zero n (fun u hu => h u (by omega)), h n (by omega)]; rfl
theorem cum_shift {g f : List Lv} {d : Nat} (h0 : ∀ u : Nat, u < d → val g (u : Int) = 0) : ∀ (t : Nat), (∀ u : Nat, u < t → val g ((u + d : Nat) : Int) = val f (u : Int)) → cum g (t + d) = cum f t
  | 0, _ => by rw [Nat.zero_add, cum_zero d h0]; rfl
  | t + 1, h => by
    have ih := cum_shift h0 t (fun u hu => h u (by omega))
    rw [show t + 1 + d = (t + d) + 1 by omega]
    simp only [cum]
    rw [ih, h t (by omega)]
/-- shifting moves the values -/
theorem shift_laws {f : List Lv} (hA : Asc (-1) f) {t u d : Int} (h0 : 0 ≤ t) (h1 : t ≤ u) (h2 : 0 ≤ d) (h3 : d ≤ 1099511627776 - u) :
    cum (shiftL d f) (t + d).toNat = cum f t.toNat ∧ val (shiftL d f) (u + d) = val f u ∧ (d ≠ 0 → val (shiftL d f) (d - 1) = 0) := by
  refine ⟨?_, ?_, fun hd => ?_⟩
  · have e : (t + d).toNat = t.toNat + d.toNat := by omega
    rw [e]
    refine cum_shift (fun v hv => ?_) t.toNat (fun v hv => ?_)
    · rw [shiftL_val (by omega) hA]
      exact val_early hA (by omega)
    · rw [shiftL_val (by omega) hA]
      congr 1
      omega
  · rw [shiftL_val (by omega) hA]
    congr 1
    omega
  · rw [shiftL_val (by omega) hA]
    exact val_early hA (by omega)
def ShiftR (f : List Lv) (d : Int) (g : List Lv) (e : Int) : Prop :=
  (chkC f ≠ 0 ∧ g = [] ∧ e = 1) ∨ (chkC f = 0 ∧ (d < 0 ∨ 1099511627776 < d) ∧ g = [] ∧ e = 2) ∨ (chkC f = 0 ∧ 0 ≤ d ∧ d ≤ 1099511627776 ∧ g = shiftL d f ∧ e = 0)
theorem ShiftR.unique {f g g' : List Lv} {d e e' : Int} (h : ShiftR f d g e) (h' : ShiftR f d g' e') : g = g' ∧ e = e' := by
  rcases h with ⟨a, b, c⟩ | ⟨a, b, c, d⟩ | ⟨a, b, c, d, e⟩ <;> rcases h' with ⟨a', b', c'⟩ | ⟨a', b', c', d'⟩ | ⟨a', b', c', d', e'⟩
  · exact ⟨by rw [b, b'], by rw [c, c']⟩
  · exact absurd a' a
  · exact absurd a' a
  · exact absurd a a'
  · exact ⟨by rw [c, c'], by rw [d, d']⟩
  · omega
  · exact absurd a a'
  · omega
  · exact ⟨by rw [d, d'], by rw [e, e']⟩
/-- with rising times: a beginning -/
theorem shiftL_take {d : Int} : ∀ {f : List Lv} {p : Int} (k : Nat), Asc p f → (∀ x, f[k]? = some x → 1099511627776 < x.a + d) → shiftL d f = shiftL d (f.take k)
  | [], _, k, _, _ => by simp
  | l :: f, p, 0, h, hk => by
    have := hk l rfl
    simp only [List.take_zero, shiftL]
    rw [if_neg (by omega), shiftL_stop h.2.2.2 (by omega)]
  | l :: f, p, k + 1, h, hk => by
    simp only [List.take_succ_cons, shiftL]
    rw [shiftL_take k h.2.2.2 (fun x hx => hk x (by simpa using hx))]
end Go.Step
namespace Go.Step
def WhenP (f : List Lv) (am k e : Int) : Prop := (chkC f ≠ 0 ∧ k = 0 ∧ e = 1) ∨ (chkC f = 0 ∧ (am < 0 ∨ 1152921504606846976 < am) ∧ k = 0 ∧ e = 2) ∨
  (chkC f = 0 ∧ 0 ≤ am ∧ am ≤ 1152921504606846976 ∧ ((∃ n : Nat, n < 1099511627777 ∧ k = (n : Int) ∧ e = 0 ∧ am ≤ cum f n ∧ ∀ i : Nat, i < n → cum f i < am) ∨ ((∀ i : Nat, i < 1099511627777 → cum f i < am) ∧ k = 0 ∧ e = 7)))
theorem WhenP.unique {f : List Lv} {am k e k' e' : Int} (h : WhenP f am k e) (h' : WhenP f am k' e') : k = k' ∧ e = e' := by
  rcases h with ⟨a, b, c⟩ | ⟨a, b, c, d⟩ | ⟨a, b, c, h⟩ <;> rcases h' with ⟨a', b', c'⟩ | ⟨a', b', c', d'⟩ | ⟨a', b', c', h'⟩
  · exact ⟨by rw [b, b'], by rw [c, c']⟩
  · exact absurd a' a
  · exact absurd a' a
  · exact absurd a a'
  · exact ⟨by rw [c, c'], by rw [d, d']⟩
  · clear h'; omega
  · exact absurd a a'
  · clear h; omega
  · rcases h with ⟨n, h1, h2, h3, h4, h5⟩ | ⟨h1, h2, h3⟩ <;> rcases h' with ⟨n', h1', h2', h3', h4', h5'⟩ | ⟨h1', h2', h3'⟩
    · have : n = n' := by
        rcases Nat.lt_trichotomy n n' with h | h | h
        · have := h5' n h; omega
        · exact h
        · have := h5 n' h; omega
      subst this
      exact ⟨by rw [h2, h2'], by rw [h3, h3']⟩
    · have := h1' n h1; omega
    · have := h1 n' h1'; omega
    · exact ⟨by rw [h2, h2'], by rw [h3, h3']⟩
theorem first_max {f : List Lv} (hr : rates f = true) {a m : Int} {k : Nat} (ha : 0 ≤ a ∧ a ≤ 1099511627776) (h1 : k < 1099511627777) (h2 : m ≤ cum f k) (h3 : ∀ i : Nat, i < k → cum f i < m) : First f a m (max k a.toNat) := by
  refine ⟨by omega, ⟨by omega, ?_⟩, fun i hi hp => ?_⟩
  · have := cum_mono hr (show k ≤ max k a.toNat by omega); omega
  · by_cases h : i < k
    · have := h3 i h; omega
    · omega
end Go.Step
