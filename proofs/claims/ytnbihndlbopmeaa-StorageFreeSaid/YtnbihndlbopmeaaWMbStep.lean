/- Step functions: what makes levels a function, its values, its sums. No program in sight. No conditions. -/
set_option linter.all false
namespace Go.Step
structure Lv where
  a : Int
  v : Int
  deriving DecidableEq, Inhabited
def badL (l : Lv) : Prop := l.a < 0 ∨ 1099511627776 < l.a ∨ l.v < -1125899906842624 ∨ 1125899906842624 < l.v
instance (l : Lv) : Decidable (badL l) := by unfold badL; infer_instance
def chkL (pa pv : Int) : List Lv → Int
  | [] => 0
  | l :: f => if badL l then 2 else if l.a ≤ pa ∨ l.v = pv then 9 else chkL l.a l.v f
/-- why levels are no normalized function -/
def chkS (f : List Lv) : Int := if 1000 < f.length then 4 else chkL (-1) 0 f
def rates (f : List Lv) : Bool := f.all (fun l => decide (0 ≤ l.v ∧ l.v ≤ 1048576))
/-- why levels are no rates -/
def chkC (f : List Lv) : Int := if chkS f ≠ 0 then chkS f else if rates f = true then 0 else 2
/-- times rise, behind pa -/
def Asc (pa : Int) : List Lv → Prop
  | [] => True
  | l :: f => pa < l.a ∧ l.a ≤ 1099511627776 ∧ (-1125899906842624 ≤ l.v ∧ l.v ≤ 1125899906842624) ∧ Asc l.a f
theorem chkL_asc : ∀ (f : List Lv) (pa pv : Int), chkL pa pv f = 0 → Asc pa f
  | [], _, _, _ => trivial
  | l :: f, pa, pv, h => by
    simp only [chkL] at h
    split at h
    · simp at h
    · rename_i h1
      split at h
      · simp at h
      · rename_i h2
        unfold badL at h1
        exact ⟨by omega, by omega, ⟨by omega, by omega⟩, chkL_asc f l.a l.v h⟩
theorem chkS_ok {f : List Lv} (h : chkS f = 0) : f.length ≤ 1000 ∧ Asc (-1) f := by
  unfold chkS at h
  split at h
  · simp at h
  · exact ⟨by omega, chkL_asc f _ _ h⟩
theorem Asc.mono : ∀ {f : List Lv} {p q : Int}, Asc p f → q ≤ p → Asc q f
  | [], _, _, _, _ => trivial
  | _ :: _, _, _, h, hq => ⟨by have := h.1; omega, h.2.1, h.2.2.1, h.2.2.2⟩
theorem Asc.gt : ∀ {f : List Lv} {p : Int}, Asc p f → ∀ l ∈ f, p < l.a ∧ l.a ≤ 1099511627776 ∧ -1125899906842624 ≤ l.v ∧ l.v ≤ 1125899906842624
  | [], _, _, l, hl => by simp at hl
  | m :: f, p, h, l, hl => by
    simp at hl
    rcases hl with rfl | hl
    · exact ⟨h.1, h.2.1, h.2.2.1⟩
    · have h9 := h.2.2.2.gt l hl
      have := h.1
      exact ⟨by omega, h9.2⟩
/-- the value at a time: that of the last level that is not later -/
def vat (cur : Int) : List Lv → Int → Int
  | [], _ => cur
  | l :: f, t => if l.a ≤ t then vat l.v f t else cur
def val (f : List Lv) (t : Int) : Int := vat 0 f t
theorem vat_append : ∀ (f g : List Lv) (cur t : Int), (∀ l ∈ f, l.a ≤ t) → vat cur (f ++ g) t = vat (vat cur f t) g t
  | [], g, cur, t, _ => rfl
  | l :: f, g, cur, t, h => by
    simp only [List.cons_append, vat]
    rw [if_pos (h l (by simp)), if_pos (h l (by simp))]
    exact vat_append f g l.v t (fun m hm => h m (by simp [hm]))
theorem vat_late : ∀ (f : List Lv) (cur t : Int), (∀ l, f.head? = some l → t < l.a) → vat cur f t = cur
  | [], _, _, _ => rfl
  | l :: f, cur, t, h => by
    simp only [vat]
    rw [if_neg (by have := h l rfl; omega)]
theorem vat_last (f : List Lv) (l : Lv) (cur t : Int) (h : ∀ m ∈ f, m.a ≤ t) (hl : l.a ≤ t) : vat cur (f ++ [l]) t = l.v := by
  rw [vat_append f [l] cur t h]
  simp [vat, hl]
theorem vat_mem : ∀ (f : List Lv) (cur t : Int), vat cur f t = cur ∨ ∃ l ∈ f, vat cur f t = l.v
  | [], _, _ => .inl rfl
  | l :: f, cur, t => by
    simp only [vat]
    split
    · rcases vat_mem f l.v t with h | ⟨m, hm, h⟩
      · exact .inr ⟨l, by simp, h⟩
      · exact .inr ⟨m, by simp [hm], h⟩
    · exact .inl rfl
theorem val_rates {f : List Lv} (h : rates f = true) (t : Int) : 0 ≤ val f t ∧ val f t ≤ 1048576 := by
  unfold rates at h
  rw [List.all_eq_true] at h
  rcases vat_mem f 0 t with e | ⟨l, hl, e⟩
  · unfold val; rw [e]; omega
  · unfold val
    rw [e]
    have := h l hl
    rw [decide_eq_true_eq] at this
    exact this
/-- the sum of the values from 0 up to a time -/
def cum (f : List Lv) : Nat → Int
  | 0 => 0
  | n + 1 => cum f n + val f (n : Int)
theorem cum_mono {f : List Lv} (h : rates f = true) : ∀ {m n : Nat}, m ≤ n → cum f m ≤ cum f n := by
  intro m n hmn
  induction n with
  | zero => have : m = 0 := by omega
            subst this; exact Int.le_refl _
  | succ n ih =>
    by_cases e : m = n + 1
    · subst e; exact Int.le_refl _
    · have := ih (by omega)
      have := (val_rates h n).1
      simp only [cum]; omega
theorem cum_bd {f : List Lv} (h : rates f = true) : ∀ n : Nat, 0 ≤ cum f n ∧ cum f n ≤ 1048576 * (n : Int)
  | 0 => by simp [cum]
  | n + 1 => by
    have := cum_bd h n
    have := val_rates h n
    simp only [cum]; omega
theorem cum_const {f : List Lv} {v : Int} {m : Nat} : ∀ (d : Nat), (∀ u : Nat, m ≤ u → u < m + d → val f (u : Int) = v) → cum f (m + d) = cum f m + v * (d : Int)
  | 0, _ => by simp
  | d + 1, h => by
    have ih := cum_const d (fun u h1 h2 => h u h1 (by omega))
    have hv := h (m + d) (by omega) (by omega)
    show cum f (m + d + 1) = _
    simp only [cum]
    rw [ih, hv]
    have : v * ((d + 1 : Nat) : Int) = v * (d : Int) + v := by
      rw [Int.natCast_add, Int.mul_add]; simp
    omega
/-- the parts of an interval, as they are yielded -/
def partsFrom (fr to now : Int) : List Lv → List ((Int × Int) × Int)
  | [] => if fr < to then [((fr, to), now)] else []
  | l :: f => if l.a ≤ fr ∨ to ≤ fr then partsFrom fr to now f else ((fr, min l.a to), now) :: partsFrom (min l.a to) to l.v f
def parts (f : List Lv) (fr to : Int) : List ((Int × Int) × Int) := partsFrom fr to (val f fr) f
def area (ps : List ((Int × Int) × Int)) : Int := ps.foldr (fun p s => p.2 * (p.1.2 - p.1.1) + s) 0
theorem vat_drop : ∀ (f : List Lv) (p cur fr t : Int), Asc p f → fr ≤ t → vat cur f t = vat (vat cur f fr) (f.dropWhile (fun l => decide (l.a ≤ fr))) t
  | [], _, _, _, _, _, _ => rfl
  | l :: f, p, cur, fr, t, h, ht => by
    by_cases hl : l.a ≤ fr
    · rw [List.dropWhile_cons_of_pos (by simpa using hl)]
      simp only [vat]
      rw [if_pos (by omega), if_pos hl]
      exact vat_drop f l.a l.v fr t h.2.2.2 ht
    · rw [List.dropWhile_cons_of_neg (by simpa using hl)]
      have : vat cur (l :: f) fr = cur := by simp only [vat]; rw [if_neg hl]
      rw [this]
theorem drop_none : ∀ (f : List Lv) (p fr : Int), Asc p f → fr ≤ p → f.dropWhile (fun l => decide (l.a ≤ fr)) = f
  | [], _, _, _, _ => rfl
  | l :: f, p, fr, h, hp => by
    rw [List.dropWhile_cons_of_neg]
    simp
    have := h.1
    omega
theorem cum_part {f : List Lv} {fr to v : Int} (h0 : 0 ≤ fr) (h1 : fr ≤ to) (h : ∀ t : Int, fr ≤ t → t < to → val f t = v) : cum f to.toNat = cum f fr.toNat + v * (to - fr) := by
  have e : to.toNat = fr.toNat + (to - fr).toNat := by omega
  rw [e, cum_const (v := v) (to - fr).toNat (fun u hu1 hu2 => h u (by omega) (by omega))]
  congr 2
  omega
theorem parts_ok (f : List Lv) (to : Int) : ∀ (g : List Lv) (p fr now : Int), Asc p g → 0 ≤ fr → fr ≤ to → (∀ t : Int, fr ≤ t → t < to → val f t = vat now (g.dropWhile (fun l => decide (l.a ≤ fr))) t) →
    area (partsFrom fr to now g) = cum f to.toNat - cum f fr.toNat ∧ ∀ q ∈ partsFrom fr to now g, fr ≤ q.1.1 ∧ q.1.1 < q.1.2 ∧ q.1.2 ≤ to ∧ q.2 = val f q.1.1
  | [], p, fr, now, _, h0, h1, H => by
    simp only [partsFrom]
    have hc := cum_part (f := f) (v := now) h0 h1 (fun t a b => by rw [H t a b]; rfl)
    by_cases e : fr < to
    · rw [if_pos e]
      refine ⟨by simp only [area, List.foldr_cons, List.foldr_nil]; omega, fun q hq => ?_⟩
      simp at hq; subst hq
      exact ⟨Int.le_refl _, e, Int.le_refl _, by rw [H fr (Int.le_refl _) e]; rfl⟩
    · rw [if_neg e]
      have : fr = to := by omega
      subst this
      exact ⟨by simp [area], by simp⟩
  | l :: g, p, fr, now, hA, h0, h1, H => by
    simp only [partsFrom]
    by_cases hs : l.a ≤ fr ∨ to ≤ fr
    · rw [if_pos hs]
      refine parts_ok f to g l.a fr now hA.2.2.2 h0 h1 (fun t a b => ?_)
      rcases hs with hs | hs
      · rw [H t a b, List.dropWhile_cons_of_pos (by simpa using hs)]
      · omega
    · rw [if_neg hs]
      simp only [not_or] at hs
      have hdr : (l :: g).dropWhile (fun l => decide (l.a ≤ fr)) = l :: g := List.dropWhile_cons_of_neg (by simpa using hs.1)
      have hnow : ∀ t : Int, fr ≤ t → t < min l.a to → val f t = now := fun t a b => by
        rw [H t a (by omega), hdr]
        simp only [vat]
        rw [if_neg (by omega)]
      have hc := cum_part (f := f) (v := now) h0 (show fr ≤ min l.a to by omega) hnow
      obtain ⟨i1, i2⟩ := parts_ok f to g l.a (min l.a to) l.v hA.2.2.2 (by omega) (by omega) (fun t a b => by
        have hm : min l.a to = l.a := by omega
        rw [hm] at a ⊢
        rw [H t (by omega) b, hdr, drop_none g l.a l.a hA.2.2.2 (Int.le_refl _)]
        simp only [vat]
        rw [if_pos a])
      refine ⟨?_, fun q hq => ?_⟩
      · have ha : area (((fr, min l.a to), now) :: partsFrom (min l.a to) to l.v g) = now * (min l.a to - fr) + area (partsFrom (min l.a to) to l.v g) := rfl
        rw [ha, i1]
        omega
      · simp at hq
        rcases hq with rfl | hq
        · refine ⟨Int.le_refl _, by dsimp only; omega, by dsimp only; omega, ?_⟩
          dsimp only
          exact (hnow fr (Int.le_refl _) (by omega)).symm
        · obtain ⟨k1, k2, k3, k4⟩ := i2 q hq
          exact ⟨by omega, k2, k3, k4⟩
/-- the integral -/
theorem parts_area {f : List Lv} {p fr to : Int} (hA : Asc p f) (h0 : 0 ≤ fr) (h1 : fr ≤ to) : area (parts f fr to) = cum f to.toNat - cum f fr.toNat ∧ ∀ q ∈ parts f fr to, fr ≤ q.1.1 ∧ q.1.1 < q.1.2 ∧ q.1.2 ≤ to ∧ q.2 = val f q.1.1 :=
  parts_ok f to f p fr (val f fr) hA h0 h1 (fun t a _ => vat_drop f p 0 fr t hA a)
end Go.Step
namespace Go.Step
theorem drop_cons {α : Type} {l : List α} {k : Nat} (h : k < l.length) : l.drop k = l[k] :: l.drop (k + 1) := List.drop_eq_getElem_cons h
theorem bad_cases (l : Lv) : (l.a < 0 ∨ (0 ≤ l.a ∧ 1099511627776 < l.a) ∨ (0 ≤ l.a ∧ l.a ≤ 1099511627776 ∧ l.v < -1125899906842624) ∨ (0 ≤ l.a ∧ l.a ≤ 1099511627776 ∧ -1125899906842624 ≤ l.v ∧ 1125899906842624 < l.v)) ∧ badL l ∨ (¬ badL l ∧ 0 ≤ l.a ∧ l.a ≤ 1099511627776 ∧ -1125899906842624 ≤ l.v ∧ l.v ≤ 1125899906842624) := by
  unfold badL; omega
def prA (f : List Lv) : Nat → Int
  | 0 => -1
  | k + 1 => (f.getD k default).a
def prV (f : List Lv) : Nat → Int
  | 0 => 0
  | k + 1 => (f.getD k default).v
theorem prA_succ {f : List Lv} {k : Nat} (h : k < f.length) : prA f (k + 1) = f[k].a := by simp [prA, List.getD_eq_getElem?_getD, h]
theorem prV_succ {f : List Lv} {k : Nat} (h : k < f.length) : prV f (k + 1) = f[k].v := by simp [prV, List.getD_eq_getElem?_getD, h]
theorem rates_take {f : List Lv} {k : Nat} (h : k < f.length) : rates (f.take (k + 1)) = (rates (f.take k) && decide (0 ≤ f[k].v ∧ f[k].v ≤ 1048576)) := by
  unfold rates
  rw [List.take_succ_eq_append_getElem h, List.all_append]
  simp
theorem rates_false {f : List Lv} {k : Nat} (h : k < f.length) (hb : ¬ (0 ≤ f[k].v ∧ f[k].v ≤ 1048576)) : rates f = false := by
  unfold rates
  rw [List.all_eq_false]
  exact ⟨f[k], List.getElem_mem h, by simpa using hb⟩
end Go.Step
namespace Go.Step
theorem getLast_vat (f : List Lv) (cur t : Int) (h : ∀ m ∈ f, m.a ≤ t) : vat cur f t = (f.getLast?.map (·.v)).getD cur := by
  induction f generalizing cur with
  | nil => rfl
  | cons l f ih =>
    simp only [vat]
    rw [if_pos (h l (by simp)), ih l.v (fun m hm => h m (by simp [hm]))]
    cases f with
    | nil => rfl
    | cons m f =>
      rw [List.getLast?_cons_cons]
      cases e : (m :: f).getLast? with
      | none => simp at e
      | some z => rfl
theorem Asc.idx : ∀ {f : List Lv} {p : Int}, Asc p f → ∀ (i j : Nat) (x y : Lv), f[i]? = some x → f[j]? = some y → i < j → x.a < y.a
  | [], _, _, i, j, x, y, h, _, _ => by simp at h
  | l :: f, p, hA, 0, j + 1, x, y, h1, h2, _ => by
    simp at h1; subst h1
    exact (hA.2.2.2.gt y (List.mem_of_getElem? (by simpa using h2))).1
  | l :: f, p, hA, i + 1, j + 1, x, y, h1, h2, hij => hA.2.2.2.idx i j x y (by simpa using h1) (by simpa using h2) (by omega)
  | l :: f, p, hA, i, 0, x, y, h1, h2, hij => by omega
/-- the value, where a search has found the place -/
theorem val_idx {f : List Lv} {t : Int} {i : Nat} (hi : i ≤ f.length) (h1 : ∀ (u : Nat) (x : Lv), u < i → f[u]? = some x → x.a ≤ t) (h2 : ∀ x, f[i]? = some x → t < x.a) : val f t = prV f i := by
  have e : f.take i ++ f.drop i = f := List.take_append_drop i f
  have hpre : ∀ m ∈ f.take i, m.a ≤ t := fun m hm => by
    obtain ⟨u, hu, e⟩ := List.getElem_of_mem hm
    rw [List.length_take] at hu
    refine h1 u m (by omega) ?_
    rw [← e, List.getElem_take]
    exact List.getElem?_eq_getElem (by omega)
  have hv : val f t = ((f.take i).getLast?.map (·.v)).getD 0 := by
    unfold val
    conv => lhs; rw [← e]
    rw [vat_append _ _ 0 t hpre, vat_late _ _ t (fun l hl => by
      rw [List.head?_drop] at hl
      exact h2 l hl), getLast_vat _ 0 t hpre]
  rw [hv]
  cases i with
  | zero => simp [prV]
  | succ k =>
    have hk : k < f.length := by omega
    rw [List.take_succ_eq_append_getElem hk, prV_succ hk, List.getLast?_concat]
    rfl
end Go.Step
