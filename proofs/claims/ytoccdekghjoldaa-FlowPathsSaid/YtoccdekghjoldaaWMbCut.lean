/- Cuts and flows: the value of a flow is at most the capacity of a cut; where nothing more can be reached, it is the capacity. No program in sight. No conditions. -/
import Derived.Test.YtoccdekghjoldaaWMbRun
set_option linter.all false
namespace Go.Flow
def sumTo (g : Nat → Int) : Nat → Int
  | 0 => 0
  | n + 1 => sumTo g n + g n
theorem sumTo_add (g h : Nat → Int) : ∀ n, sumTo (fun v => g v + h v) n = sumTo g n + sumTo h n
  | 0 => rfl
  | n + 1 => by simp only [sumTo]; rw [sumTo_add g h n]; omega
theorem sumTo_congr {g h : Nat → Int} : ∀ n, (∀ v, v < n → g v = h v) → sumTo g n = sumTo h n
  | 0, _ => rfl
  | n + 1, e => by simp only [sumTo]; rw [sumTo_congr n (fun v hv => e v (by omega)), e n (by omega)]
theorem sumTo_zero {g : Nat → Int} : ∀ n, (∀ v, v < n → g v = 0) → sumTo g n = 0
  | 0, _ => rfl
  | n + 1, e => by simp only [sumTo]; rw [sumTo_zero n (fun v hv => e v (by omega)), e n (by omega)]; rfl
theorem sumTo_one {g : Nat → Int} {k : Nat} : ∀ n, k < n → (∀ v, v < n → v ≠ k → g v = 0) → sumTo g n = g k
  | 0, h, _ => by omega
  | n + 1, h, e => by
    simp only [sumTo]
    by_cases hk : k = n
    · subst hk
      rw [sumTo_zero k (fun v hv => e v (by omega) (by omega))]; omega
    · rw [sumTo_one n (by omega) (fun v hv hne => e v (by omega) hne), e n (by omega) (by omega)]; omega
/-- what leaves a set, less what enters it -/
def netB (B : Nat → Bool) : List Arc → List Int → Int
  | a :: l, x :: fl => ((if B a.f.toNat = true then x else 0) - (if B a.t.toNat = true then x else 0)) + netB B l fl
  | _, _ => 0
theorem netB_eq {n : Nat} (B : Nat → Bool) : ∀ (l : List Arc) (fl : List Int), (∀ a ∈ l, okArc n a = true) → sumTo (fun v => if B v = true then fval v l fl else 0) n = netB B l fl
  | [], fl, _ => by
    rw [sumTo_zero n (fun v _ => by simp [fval])]; rfl
  | a :: l, [], _ => by
    rw [sumTo_zero n (fun v _ => by simp [fval])]; rfl
  | a :: l, x :: fl, h => by
    obtain ⟨g1, g2, g3, g4, _⟩ := okArc_iff.1 (h a (by simp))
    have ih := netB_eq B l fl (fun b hb => h b (by simp [hb]))
    simp only [netB]
    rw [← ih]
    have e1 : sumTo (fun v => if B v = true then (if a.f = (v : Int) then x else 0) else 0) n = if B a.f.toNat = true then x else 0 := by
      rw [sumTo_one (k := a.f.toNat) n (by omega) (fun v _ hne => by rw [if_neg (show ¬ a.f = (v : Int) by omega)]; split <;> rfl)]
      rw [if_pos (show a.f = ((a.f.toNat : Nat) : Int) by omega)]
    have e2 : sumTo (fun v => if B v = true then (if a.t = (v : Int) then -x else 0) else 0) n = if B a.t.toNat = true then -x else 0 := by
      rw [sumTo_one (k := a.t.toNat) n (by omega) (fun v _ hne => by rw [if_neg (show ¬ a.t = (v : Int) by omega)]; split <;> rfl)]
      rw [if_pos (show a.t = ((a.t.toNat : Nat) : Int) by omega)]
    have e3 : sumTo (fun v => if B v = true then fval v (a :: l) (x :: fl) else 0) n = sumTo (fun v => ((if B v = true then (if a.f = (v : Int) then x else 0) else 0) + (if B v = true then (if a.t = (v : Int) then -x else 0) else 0)) + (if B v = true then fval v l fl else 0)) n := by
      apply sumTo_congr
      intro v _
      simp only [fval]
      repeat' split
      all_goals omega
    rw [e3, sumTo_add, sumTo_add, e1, e2]
    repeat' split
    all_goals omega
section
variable {n s t : Nat} {l : List Arc} {fl : List Int} {B : Nat → Bool}
/-- the value of a flow, over a cut -/
theorem Flw.net (hok : ∀ a ∈ l, okArc n a = true) (hf : Flw n l s t fl) (hs : s < n) (h1 : B s = true) (h2 : B t = false) : netB B l fl = fval s l fl := by
  rw [← netB_eq B l fl hok, sumTo_one (k := s) n hs (fun v hv hne => ?_)]
  · rw [if_pos h1]
  · split
    · rename_i hb
      exact hf.bal v hv hne (fun e => by subst e; rw [h2] at hb; simp at hb)
    · rfl
end
/-- each arc out of the set is full, each arc into it is empty -/
def tight (B : Nat → Bool) (l : List Arc) (fl : List Int) : Prop :=
  ∀ (i : Nat) (a : Arc) (x : Int), l[i]? = some a → fl[i]? = some x → (B a.f.toNat = true → B a.t.toNat = false → x = a.c) ∧ (B a.f.toNat = false → B a.t.toNat = true → x = 0)
theorem net_le (B : Nat → Bool) : ∀ (l : List Arc) (fl : List Int), l.length = fl.length → inCap l fl = true → (∀ a ∈ l, 0 ≤ a.c) → netB B l fl ≤ capOf B l ∧ (netB B l fl = capOf B l ↔ tight B l fl)
  | [], [], _, _, _ => ⟨by simp [netB, capOf], by simp [netB, capOf, tight]⟩
  | a :: l, x :: fl, hl, h, h0 => by
    simp only [inCap, Bool.and_eq_true, decide_eq_true_eq] at h
    obtain ⟨ih1, ih2⟩ := net_le B l fl (by simpa using hl) h.2 (fun b hb => h0 b (by simp [hb]))
    have ha := h0 a (by simp)
    simp only [netB, capOf]
    have hstep : tight B (a :: l) (x :: fl) ↔ (((B a.f.toNat = true → B a.t.toNat = false → x = a.c) ∧ (B a.f.toNat = false → B a.t.toNat = true → x = 0)) ∧ tight B l fl) := by
      constructor
      · intro ht
        exact ⟨ht 0 a x rfl rfl, fun i b y hb hy => ht (i + 1) b y (by simpa using hb) (by simpa using hy)⟩
      · rintro ⟨h1, h2⟩ i b y hb hy
        cases i with
        | zero => simp at hb hy; subst hb; subst hy; exact h1
        | succ i => exact h2 i b y (by simpa using hb) (by simpa using hy)
    rw [hstep, ← ih2]
    cases hB1 : B a.f.toNat <;> cases hB2 : B a.t.toNat <;> simp <;> omega
/-- reached from s -/
inductive Rch (E : Lk → Prop) (s : Nat) : Nat → Prop
  | refl : Rch E s s
  | step {x : Lk} : Rch E s x.f → E x → Rch E s x.t
theorem Rch.far {n s t : Nat} {E : Lk → Prop} {D : List Int} (hD : IsDist n t E D) (hs : D.getD s 0 < 0) {v : Nat} (h : Rch E s v) : D.getD v 0 < 0 := by
  induction h with
  | refl => exact hs
  | @step x _ hx ih =>
    apply Classical.byContradiction
    intro hc
    have := (hD.link x hx (by omega)).1
    omega
theorem Rch.sub {E : Lk → Prop} {s : Nat} {B : Nat → Bool} (hs : B s = true) (hcl : ∀ x, E x → B x.f = true → B x.t = true) {v : Nat} (h : Rch E s v) : B v = true := by
  induction h with
  | refl => exact hs
  | step _ hx ih => exact hcl _ hx ih
section
variable {n s t : Nat} {l : List Arc} {fl : List Int} {B : Nat → Bool}
/-- closed in the residual graph: the same as tight -/
theorem tight_iff (hl : l.length = fl.length) (hc : inCap l fl = true) : tight B l fl ↔ ∀ x, rE l fl x → B x.f = true → B x.t = true := by
  have hgl : ∀ (i : Nat) (a : Arc), l[i]? = some a → l.getD i default = a ∧ ∃ x, fl[i]? = some x ∧ fl.getD i 0 = x := fun i a ha => by
    have hi : i < l.length := (List.getElem?_eq_some_iff.1 ha).1
    have hi2 : i < fl.length := by omega
    refine ⟨by simp [List.getD_eq_getElem?_getD, ha], fl[i], List.getElem?_eq_getElem hi2, by simp [List.getD_eq_getElem?_getD, hi2]⟩
  constructor
  · rintro ht x ⟨hx, hr⟩ hB
    obtain ⟨i, a, ha, hxe⟩ := rlinks_iff.1 hx
    obtain ⟨e1, y, hy, e2⟩ := hgl i a ha
    obtain ⟨t1, t2⟩ := ht i a y ha hy
    have hin := inCap_get l fl hc i a y ha hy
    unfold rmR at hr
    rcases hxe with rfl | rfl
    · dsimp only at hr hB ⊢
      rw [if_pos (by omega), show 2 * i / 2 = i from by omega, e1, e2] at hr
      cases hb : B a.t.toNat with
      | true => rfl
      | false => have := t1 hB hb; omega
    · dsimp only at hr hB ⊢
      rw [if_neg (by omega), show (2 * i + 1) / 2 = i from by omega, e2] at hr
      cases hb : B a.f.toNat with
      | true => rfl
      | false => have := t2 hb hB; omega
  · intro h i a y ha hy
    obtain ⟨e1, y', hy', e2⟩ := hgl i a ha
    rw [hy] at hy'
    obtain rfl := Option.some.inj hy'
    have hin := inCap_get l fl hc i a y ha hy
    constructor
    · intro h1 h2
      have := h ⟨2 * i, a.f.toNat, a.t.toNat⟩
      apply Classical.byContradiction
      intro hne
      have h3 := this ⟨rlinks_iff.2 ⟨i, a, ha, .inl rfl⟩, by unfold rmR; dsimp only; rw [if_pos (by omega), show 2 * i / 2 = i from by omega, e1, e2]; omega⟩ h1
      dsimp only at h3
      rw [h2] at h3; simp at h3
    · intro h1 h2
      have := h ⟨2 * i + 1, a.t.toNat, a.f.toNat⟩
      apply Classical.byContradiction
      intro hne
      have h3 := this ⟨rlinks_iff.2 ⟨i, a, ha, .inr rfl⟩, by unfold rmR; dsimp only; rw [if_neg (by omega), show (2 * i + 1) / 2 = i from by omega, e2]; omega⟩ h2
      dsimp only at h3
      rw [h1] at h3; simp at h3
theorem ok_cap (hok : ∀ a ∈ l, okArc n a = true) : ∀ a ∈ l, 0 ≤ a.c := fun a ha => by have := okArc_iff.1 (hok a ha); omega
/-- weak duality -/
theorem Flw.le_cap (hok : ∀ a ∈ l, okArc n a = true) (hf : Flw n l s t fl) (hs : s < n) (h1 : B s = true) (h2 : B t = false) : fval s l fl ≤ capOf B l := by
  rw [← hf.net hok hs h1 h2]
  exact (net_le B l fl hf.len hf.cap (ok_cap hok)).1
/-- the set that is reached, as a test -/
def IsReach (n : Nat) (E : Lk → Prop) (s : Nat) (B : Nat → Bool) : Prop := ∀ v, v < n → (B v = true ↔ Rch E s v)
theorem reach_lt {E : Lk → Prop} (hE : ∀ x, E x → x.f < n ∧ x.t < n) (hs : s < n) {v : Nat} (h : Rch E s v) : v < n := by
  cases h with
  | refl => exact hs
  | step _ hx => exact (hE _ hx).2
theorem IsReach.closed {E : Lk → Prop} (hE : ∀ x, E x → x.f < n ∧ x.t < n) (h : IsReach n E s B) : ∀ x, E x → B x.f = true → B x.t = true :=
  fun x hx hb => (h x.t (hE x hx).2).2 (.step ((h x.f (hE x hx).1).1 hb) hx)
/-- the end of a run: a maximum flow and a minimum cut -/
theorem run_cut (hok : ∀ a ∈ l, okArc n a = true) (hs : s < n) (ht : t < n) (hst : s ≠ t) (hr : RunR n l s t (List.replicate l.length 0) fl) (hB : IsReach n (rE l fl) s B) :
    Flw n l s t fl ∧ B s = true ∧ B t = false ∧ fval s l fl = capOf B l := by
  obtain ⟨hf, D, hD, hn⟩ := hr.flw hok hs hst (flw_zeros hok)
  have hE : ∀ x, rE l fl x → x.f < n ∧ x.t < n := fun x hx => rl_lt hok x hx.1
  have b1 : B s = true := (hB s hs).2 .refl
  have b2 : B t = false := by
    cases hb : B t with
    | false => rfl
    | true =>
      have := ((hB t ht).1 hb).far hD hn
      rw [hD.at0] at this; omega
  refine ⟨hf, b1, b2, ?_⟩
  rw [← hf.net hok hs b1 b2]
  exact (net_le B l fl hf.len hf.cap (ok_cap hok)).2.2 ((tight_iff hf.len hf.cap).2 (hB.closed hE))
/-- a cut of the same capacity holds all that is reached -/
theorem run_least (hok : ∀ a ∈ l, okArc n a = true) (hs : s < n) (hf : Flw n l s t fl) {S : Nat → Bool} (h1 : S s = true) (h2 : S t = false) (he : fval s l fl = capOf S l) {v : Nat} (hv : Rch (rE l fl) s v) : S v = true := by
  rw [← hf.net hok hs h1 h2] at he
  have := (net_le S l fl hf.len hf.cap (ok_cap hok)).2.1 he
  exact hv.sub h1 ((tight_iff hf.len hf.cap).1 this)
end
/-- there is always such a set -/
theorem exists_reach (n : Nat) (E : Lk → Prop) (s : Nat) : ∃ B, IsReach n E s B := by
  refine ⟨fun v => open Classical in decide (Rch E s v), fun v _ => ?_⟩
  simp
end Go.Flow
