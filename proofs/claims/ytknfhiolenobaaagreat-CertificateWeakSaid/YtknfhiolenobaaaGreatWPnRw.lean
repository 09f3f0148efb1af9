/- Texts of this proof, one after the other; no conditions. -/
import Derived.Test.YtknfhiolenobaaaGreatWB10
import Derived.Test.YtknfhiolenobaaaGreatWB7
import Derived.Test.YtknfhiolenobaaaGreatWB9
import Derived.Test.YtknfhiolenobaaaGreatWB2
import Derived.Test.YtknfhiolenobaaaGreatWB5
set_option linter.all false
/- Shipments bring at most the capacity of a cut. No program in sight. No conditions. -/
namespace Go.Step
/-! sums -/
theorem sumT_add (f g : Int → Int) (a : Int) : ∀ m : Nat, sumT (fun k => f k + g k) a m = sumT f a m + sumT g a m
  | 0 => rfl
  | m + 1 => by simp only [sumT]; rw [sumT_add f g a m]; omega
theorem sumT_sub (f g : Int → Int) (a : Int) : ∀ m : Nat, sumT (fun k => f k - g k) a m = sumT f a m - sumT g a m
  | 0 => rfl
  | m + 1 => by simp only [sumT]; rw [sumT_sub f g a m]; omega
theorem sumT_none (a : Int) : ∀ m : Nat, sumT (fun _ => (0 : Int)) a m = 0
  | 0 => rfl
  | m + 1 => by simp only [sumT]; rw [sumT_none a m]; rfl
theorem sumT_pick (g : Int → Int) (a b : Int) : ∀ m : Nat, sumT (fun k => if b = k then g k else 0) a m = if a ≤ b ∧ b < a + m then g b else 0
  | 0 => by rw [if_neg (by omega)]; rfl
  | m + 1 => by
    simp only [sumT]
    rw [sumT_pick g a b m]
    by_cases h : b = a + m
    · subst h
      rw [if_neg (by omega), if_pos rfl, if_pos (by omega), Int.zero_add]
    · rw [if_neg h, Int.add_zero]
      by_cases h2 : a ≤ b ∧ b < a + m
      · rw [if_pos h2, if_pos (by omega)]
      · rw [if_neg h2, if_neg (by omega)]
theorem sumU_add (f g : Int → Int) (a t : Int) : sumU (fun k => f k + g k) a t = sumU f a t + sumU g a t := sumT_add f g a _
theorem sumU_sub (f g : Int → Int) (a t : Int) : sumU (fun k => f k - g k) a t = sumU f a t - sumU g a t := sumT_sub f g a _
theorem sumU_none (a t : Int) : sumU (fun _ => (0 : Int)) a t = 0 := sumT_none a _
theorem sumU_pick (g : Int → Int) {a b t : Int} (h1 : a ≤ b) (h2 : b < t) : sumU (fun k => if b = k then g k else 0) a t = g b := by
  unfold sumU
  rw [sumT_pick, if_pos (by omega)]
theorem tele_ge (g : Int → Int) {r a : Int} (h1 : r ≤ a) : ∀ {e : Int}, a ≤ e → sumU (fun t => if a ≤ t then g t - g (t + 1) else 0) r e = g a - g e := fun {e} h2 => by
  obtain ⟨k, rfl⟩ : ∃ k : Nat, e = a + k := ⟨(e - a).toNat, by omega⟩
  clear h2
  induction k with
  | zero =>
    rw [show a + ((0 : Nat) : Int) = a by omega, Int.sub_self]
    have : sumU (fun t => if a ≤ t then g t - g (t + 1) else 0) r a = sumU (fun _ => 0) r a := by
      unfold sumU
      exact sumT_congr (fun k hk => by rw [if_neg (by omega)])
    rw [this, sumU_none]
  | succ k ih =>
    rw [show a + ((k + 1 : Nat) : Int) = a + (k : Int) + 1 by omega, sumU_succ (by omega), ih, if_pos (by omega)]
    omega
theorem tele_lt (g : Int → Int) {r a : Int} (h1 : r ≤ a) : ∀ {e : Int}, a ≤ e → sumU (fun t => if t < a then g t - g (t + 1) else 0) r e = g r - g a := fun {e} h2 => by
  have h3 : sumU (fun t => g t - g (t + 1)) r e = g r - g e := by
    have := tele_ge g (r := r) (a := r) (Int.le_refl _) (e := e) (by omega)
    rw [← this]
    unfold sumU
    exact sumT_congr (fun k hk => by rw [if_pos (by omega)])
  have h4 := tele_ge g h1 h2
  have h5 : sumU (fun t => if t < a then g t - g (t + 1) else 0) r e = sumU (fun t => (g t - g (t + 1)) - (if a ≤ t then g t - g (t + 1) else 0)) r e := by
    unfold sumU
    refine sumT_congr (fun k hk => ?_)
    by_cases h : r + (k : Int) < a
    · rw [if_pos h, if_neg (by omega)]; omega
    · rw [if_neg h, if_pos (by omega)]; omega
  rw [h5, sumU_sub, h3, h4]
  omega
/-! one shipment -/
section
variable (cs : List Ct) (d : Dm) (P : Int → Int → Bool)
def cutD (n t s : Int) : Int := (if P n t = true then s else 0) - (if P n (t + 1) = true then s else 0)
def endB (n : Int) : Bool := if n = d.s then P d.s d.r else P n d.e
def wsum (nq : Nat) (l : List Sh) : Int := sumT (fun n => sumU (fun t => cutD P n t (stock cs d n t l)) d.r d.e) 0 nq
def cross (x : Sh) : Int := (if P (ctOf cs x).f x.t = true then x.n else 0) - (if P (ctOf cs x).t (arrOf cs x) = true then x.n else 0)
def endK (x : Sh) : Int := (if endB d P (ctOf cs x).f = true then x.n else 0) - (if endB d P (ctOf cs x).t = true then x.n else 0)
structure ShOk (nq : Nat) (x : Sh) : Prop where
  f : 0 ≤ (ctOf cs x).f ∧ (ctOf cs x).f < nq
  t : 0 ≤ (ctOf cs x).t ∧ (ctOf cs x).t < nq
  a : d.r ≤ x.t ∧ x.t ≤ d.e
  b : d.r ≤ arrOf cs x ∧ arrOf cs x ≤ d.e
variable {cs d P}
theorem one_node {nq : Nat} {x : Sh} (h : ShOk cs d nq x) (n : Int) : sumU (fun t => cutD P n t (stk1 cs d n t x)) d.r d.e =
    (if (ctOf cs x).t = n then (if P n (arrOf cs x) = true then x.n else 0) - (if endB d P n = true then x.n else 0) else 0) - (if (ctOf cs x).f = n then (if P n x.t = true then x.n else 0) - (if endB d P n = true then x.n else 0) else 0) := by
  have ha := h.a
  have hb := h.b
  have e1 := tele_ge (fun t => if P n t = true then x.n else 0) hb.1 hb.2
  have e2 := tele_ge (fun t => if P n t = true then x.n else 0) ha.1 ha.2
  have e3 := tele_lt (fun t => if P n t = true then x.n else 0) hb.1 hb.2
  have e4 := tele_lt (fun t => if P n t = true then x.n else 0) ha.1 ha.2
  by_cases hs : n = d.s
  · have hE : endB d P n = P n d.r := by unfold endB; rw [if_pos hs, hs]
    have : sumU (fun t => cutD P n t (stk1 cs d n t x)) d.r d.e = sumU (fun t => (if (ctOf cs x).f = n then (if t < x.t then (if P n t = true then x.n else 0) - (if P n (t + 1) = true then x.n else 0) else 0) else 0) - (if (ctOf cs x).t = n then (if t < arrOf cs x then (if P n t = true then x.n else 0) - (if P n (t + 1) = true then x.n else 0) else 0) else 0)) d.r d.e := by
      unfold sumU
      refine sumT_congr (fun k _ => ?_)
      unfold cutD stk1
      rw [if_pos hs]
      by_cases c1 : (ctOf cs x).f = n <;> by_cases c2 : (ctOf cs x).t = n <;> by_cases c3 : d.r + (k : Int) < x.t <;> by_cases c4 : d.r + (k : Int) < arrOf cs x <;> cases P n (d.r + (k : Int)) <;> cases P n (d.r + (k : Int) + 1) <;> simp [c1, c2, c3, c4] <;> omega
    rw [this, sumU_sub, hE]
    by_cases c1 : (ctOf cs x).f = n <;> by_cases c2 : (ctOf cs x).t = n <;> simp only [c1, c2, if_true, if_false] <;> simp only [sumU_none, e3, e4] <;> omega
  · have hE : endB d P n = P n d.e := by unfold endB; rw [if_neg hs]
    have : sumU (fun t => cutD P n t (stk1 cs d n t x)) d.r d.e = sumU (fun t => (if (ctOf cs x).t = n then (if arrOf cs x ≤ t then (if P n t = true then x.n else 0) - (if P n (t + 1) = true then x.n else 0) else 0) else 0) - (if (ctOf cs x).f = n then (if x.t ≤ t then (if P n t = true then x.n else 0) - (if P n (t + 1) = true then x.n else 0) else 0) else 0)) d.r d.e := by
      unfold sumU
      refine sumT_congr (fun k _ => ?_)
      unfold cutD stk1
      rw [if_neg hs]
      by_cases c1 : (ctOf cs x).f = n <;> by_cases c2 : (ctOf cs x).t = n <;> by_cases c3 : x.t ≤ d.r + (k : Int) <;> by_cases c4 : arrOf cs x ≤ d.r + (k : Int) <;> cases P n (d.r + (k : Int)) <;> cases P n (d.r + (k : Int) + 1) <;> simp [c1, c2, c3, c4] <;> omega
    rw [this, sumU_sub, hE]
    by_cases c1 : (ctOf cs x).f = n <;> by_cases c2 : (ctOf cs x).t = n <;> simp only [c1, c2, if_true, if_false] <;> simp only [sumU_none, e1, e2] <;> omega
theorem cutD_add (n t a b : Int) : cutD P n t (a + b) = cutD P n t a + cutD P n t b := by
  unfold cutD
  split <;> split <;> omega
theorem wsum_eq {nq : Nat} : ∀ {l : List Sh}, (∀ x ∈ l, ShOk cs d nq x) → wsum cs d P nq l + lsum (cross cs P) l = lsum (endK cs d P) l
  | [], _ => by
    have : wsum cs d P nq [] = sumT (fun _ => 0) 0 nq := by
      unfold wsum
      refine sumT_congr (fun k _ => ?_)
      have : sumU (fun t => cutD P (0 + (k : Int)) t (stock cs d (0 + (k : Int)) t [])) d.r d.e = sumU (fun _ => 0) d.r d.e := by
        unfold sumU
        refine sumT_congr (fun j _ => ?_)
        unfold cutD stock
        simp
      rw [this, sumU_none]
    rw [this, sumT_none]
    rfl
  | x :: l, h => by
    have ih := wsum_eq (l := l) (fun y hy => h y (by simp [hy]))
    have hx := h x (by simp)
    have e1 : wsum cs d P nq (x :: l) = sumT (fun n => sumU (fun t => cutD P n t (stk1 cs d n t x)) d.r d.e) 0 nq + wsum cs d P nq l := by
      unfold wsum
      rw [← sumT_add]
      refine sumT_congr (fun k _ => ?_)
      rw [← sumU_add]
      unfold sumU
      refine sumT_congr (fun j _ => ?_)
      rw [← cutD_add]
      rfl
    have e2 : sumT (fun n => sumU (fun t => cutD P n t (stk1 cs d n t x)) d.r d.e) 0 nq = ((if P (ctOf cs x).t (arrOf cs x) = true then x.n else 0) - (if endB d P (ctOf cs x).t = true then x.n else 0)) - ((if P (ctOf cs x).f x.t = true then x.n else 0) - (if endB d P (ctOf cs x).f = true then x.n else 0)) := by
      have e : sumT (fun n => sumU (fun t => cutD P n t (stk1 cs d n t x)) d.r d.e) 0 nq = sumT (fun n => (if (ctOf cs x).t = n then (if P n (arrOf cs x) = true then x.n else 0) - (if endB d P n = true then x.n else 0) else 0) - (if (ctOf cs x).f = n then (if P n x.t = true then x.n else 0) - (if endB d P n = true then x.n else 0) else 0)) 0 nq := sumT_congr (fun k _ => one_node hx _)
      rw [e]
      rw [sumT_sub (fun n => if (ctOf cs x).t = n then (if P n (arrOf cs x) = true then x.n else 0) - (if endB d P n = true then x.n else 0) else 0) (fun n => if (ctOf cs x).f = n then (if P n x.t = true then x.n else 0) - (if endB d P n = true then x.n else 0) else 0)]
      rw [sumT_pick, sumT_pick, if_pos (show 0 ≤ (ctOf cs x).t ∧ (ctOf cs x).t < 0 + (nq : Int) by have := hx.t; omega), if_pos (show 0 ≤ (ctOf cs x).f ∧ (ctOf cs x).f < 0 + (nq : Int) by have := hx.f; omega)]
    simp only [lsum]
    rw [e1, e2]
    unfold cross endK at *
    omega
/-! the ends -/
theorem endK_one {nq : Nat} {x : Sh} (hx : ShOk cs d nq x) (hs : P d.s d.r = true) : endK cs d P x = sumT (fun n => if endB d P n = true then 0 else stk1 cs d n d.e x) 0 nq := by
  have e : sumT (fun n => if endB d P n = true then 0 else stk1 cs d n d.e x) 0 nq = sumT (fun n => (if (ctOf cs x).t = n then (if endB d P n = true then 0 else x.n) else 0) - (if (ctOf cs x).f = n then (if endB d P n = true then 0 else x.n) else 0)) 0 nq := by
    refine sumT_congr (fun k _ => ?_)
    have ha := hx.a
    have hb := hx.b
    by_cases hE : endB d P (0 + (k : Int)) = true
    · rw [if_pos hE]; simp only [hE, if_true]; split <;> split <;> omega
    · rw [if_neg hE]
      have hns : 0 + (k : Int) ≠ d.s := fun h => hE (by unfold endB; rw [if_pos h]; exact hs)
      unfold stk1
      rw [if_neg hns]
      simp only [hE, if_false]
      by_cases c1 : (ctOf cs x).t = 0 + (k : Int) <;> by_cases c2 : (ctOf cs x).f = 0 + (k : Int) <;> simp [c1, c2] <;> omega
  rw [e, sumT_sub (fun n => if (ctOf cs x).t = n then (if endB d P n = true then 0 else x.n) else 0) (fun n => if (ctOf cs x).f = n then (if endB d P n = true then 0 else x.n) else 0), sumT_pick, sumT_pick, if_pos (show 0 ≤ (ctOf cs x).t ∧ (ctOf cs x).t < 0 + (nq : Int) by have := hx.t; omega), if_pos (show 0 ≤ (ctOf cs x).f ∧ (ctOf cs x).f < 0 + (nq : Int) by have := hx.f; omega)]
  unfold endK
  split <;> split <;> omega
theorem endK_sum {nq : Nat} (hs : P d.s d.r = true) : ∀ {l : List Sh}, (∀ x ∈ l, ShOk cs d nq x) → lsum (endK cs d P) l = sumT (fun n => if endB d P n = true then 0 else stock cs d n d.e l) 0 nq
  | [], _ => by
    rw [sumT_congr (g := fun _ => 0) (fun k _ => by simp [stock]), sumT_none]
    rfl
  | x :: l, h => by
    simp only [lsum]
    rw [endK_sum hs (l := l) (fun y hy => h y (by simp [hy])), endK_one (h x (by simp)) hs, ← sumT_add]
    refine sumT_congr (fun k _ => ?_)
    simp only [stock]
    split <;> omega
theorem ends_val {nq : Nat} {l : List Sh} (hd : okDm nq d) (h : ∀ x ∈ l, ShOk cs d nq x) (hc : conflB nq cs d l = false) (hs : P d.s d.r = true) (ht : P d.d d.e = false) : lsum (endK cs d P) l = stock cs d d.d d.e l := by
  unfold okDm at hd
  rw [endK_sum hs h]
  have e : sumT (fun n => if endB d P n = true then 0 else stock cs d n d.e l) 0 nq = sumT (fun n => if d.d = n then stock cs d n d.e l else 0) 0 nq := by
    refine sumT_congr (fun k hk => ?_)
    unfold conflB at hc
    have h1 := (anyT_none.1 ((anyT_none.1 hc) k hk)) (d.e - d.r).toNat (by omega)
    rw [show d.r + ((d.e - d.r).toNat : Int) = d.e by omega] at h1
    unfold confAt at h1
    rw [decide_eq_false_iff_not] at h1
    by_cases hD : d.d = 0 + (k : Int)
    · rw [if_pos hD, if_neg]
      unfold endB
      rw [if_neg (by omega), ← hD, ht]
      simp
    · rw [if_neg hD]
      by_cases hE : endB d P (0 + (k : Int)) = true
      · rw [if_pos hE]
      · rw [if_neg hE]
        have hns : 0 + (k : Int) ≠ d.s := fun h => hE (by unfold endB; rw [if_pos h]; exact hs)
        exact Decidable.byContradiction (fun h2 => h1 (.inr ⟨rfl, hns, fun h3 => hD h3.symm, h2⟩))
  rw [e, sumT_pick, if_pos (by omega)]
/-! the waits -/
theorem wsum_le {qs : List Int} {hs : List Hd} {l : List Sh} (hc : conflB qs.length cs d l = false) (hf : fullB qs cs hs d l = false) (hre : d.r ≤ d.e) : wsum cs d P qs.length l ≤ sumT (fun n => sumU (waitB qs hs d P n) d.r d.e) 0 qs.length := by
  unfold wsum
  refine sumT_le (fun k hk => ?_)
  unfold sumU
  refine sumT_le (fun j hj => ?_)
  unfold conflB at hc
  unfold fullB at hf
  have h1 := (anyT_none.1 ((anyT_none.1 hc) k hk)) j (by omega)
  have h2 := (anyT_none.1 ((anyT_none.1 hf) k hk)) j hj
  unfold confAt at h1
  unfold fullAt at h2
  rw [decide_eq_false_iff_not] at h1 h2
  have h3 : 0 ≤ stock cs d (0 + (k : Int)) (d.r + (j : Int)) l := Int.not_lt.1 (fun h => h1 (.inl h))
  unfold cutD waitB
  simp only [Int.zero_add] at *
  cases P (k : Int) (d.r + (j : Int)) <;> cases P (k : Int) (d.r + (j : Int) + 1) <;> simp <;> omega
/-! the contacts -/
theorem keys_le {a e : Int} {m : Nat} : ∀ {l : List Sh} {φ : Int → Int → Int}, (∀ i t : Int, 0 ≤ i → i < m → 0 ≤ φ i t) → (∀ x ∈ l, (0 ≤ x.c ∧ x.c < m) ∧ a ≤ x.t ∧ x.t < e) → l.Pairwise (fun x y => sameSl y x = false) → lsum (fun x => φ x.c x.t) l ≤ sumT (fun i => sumU (φ i) a e) 0 m
  | [], φ, h0, _, _ => by
    show 0 ≤ sumT (fun i => sumU (φ i) a e) 0 m
    refine Int.le_trans (Int.le_of_eq (sumT_none 0 m).symm) ?_
    refine sumT_le (fun k hk => ?_)
    refine Int.le_trans (Int.le_of_eq (sumU_none a e).symm) ?_
    unfold sumU
    exact sumT_le (fun j _ => h0 _ _ (by omega) (by omega))
  | x :: l, φ, h0, hk, hp => by
    have hx := hk x (by simp)
    have hp2 := List.pairwise_cons.1 hp
    have ih := keys_le (l := l) (φ := fun i t => if x.c = i ∧ x.t = t then 0 else φ i t) (fun i t h1 h2 => by split; omega; exact h0 i t h1 h2) (fun y hy => hk y (by simp [hy])) hp2.2
    have e1 : lsum (fun y => (fun i t => if x.c = i ∧ x.t = t then 0 else φ i t) y.c y.t) l = lsum (fun y => φ y.c y.t) l := lsum_congr (fun y hy => by
      dsimp only
      have := hp2.1 y hy
      unfold sameSl at this
      rw [decide_eq_false_iff_not] at this
      rw [if_neg (fun h => this ⟨h.1.symm, h.2.symm⟩)])
    have e2 : sumT (fun i => sumU (φ i) a e) 0 m = sumT (fun i => sumU (fun t => if x.c = i ∧ x.t = t then 0 else φ i t) a e) 0 m + φ x.c x.t := by
      have e3 : sumT (fun i => sumU (φ i) a e) 0 m = sumT (fun i => sumU (fun t => if x.c = i ∧ x.t = t then 0 else φ i t) a e + (if x.c = i then φ i x.t else 0)) 0 m := by
        refine sumT_congr (fun k _ => ?_)
        by_cases hc : x.c = 0 + (k : Int)
        · rw [if_pos hc, ← sumU_pick (φ (0 + (k : Int))) hx.2.1 hx.2.2, ← sumU_add]
          unfold sumU
          refine sumT_congr (fun j _ => ?_)
          by_cases ht : x.t = a + (j : Int)
          · rw [if_pos ⟨hc, ht⟩, if_pos ht]; omega
          · rw [if_neg (fun h => ht h.2), if_neg ht]; omega
        · rw [if_neg hc, Int.add_zero]
          unfold sumU
          exact sumT_congr (fun j _ => by rw [if_neg (fun h => hc h.1)])
      rw [e3, sumT_add, sumT_pick (fun i => φ i x.t), if_pos (by omega)]
    simp only [lsum]
    rw [e2]
    rw [e1] at ih
    omega
end
section
variable {qs : List Int} {cs : List Ct} {bs : List Bk} {hs : List Hd} {d : Dm}
theorem ships_facts {l : List Sh} (h : firstE (shipE cs bs d l) l.length = 0) : (∀ x ∈ l, ship1 cs bs d x = 0) ∧ l.Pairwise (fun x y => sameSl y x = false) := by
  have h1 : ∀ (i : Nat) (hi : i < l.length), ship1 cs bs d l[i] = 0 ∧ (l.take i).any (sameSl l[i]) = false := fun i hi => by
    have := firstE_zero h i hi
    rw [shipE_at (List.getElem?_eq_getElem hi)] at this
    by_cases h1 : ship1 cs bs d l[i] = 0
    · rw [if_neg (by simpa using h1)] at this
      refine ⟨h1, ?_⟩
      cases h2 : (l.take i).any (sameSl l[i]) with
      | false => rfl
      | true => rw [h2] at this; simp at this
    · rw [if_pos h1] at this
      exact absurd this h1
  refine ⟨fun x hx => ?_, List.pairwise_iff_getElem.2 (fun i j hi hj hij => ?_)⟩
  · obtain ⟨i, hi, rfl⟩ := List.getElem_of_mem hx
    exact (h1 i hi).1
  · have := (h1 j hj).2
    rw [List.any_eq_false] at this
    have h2 := this l[i] (List.mem_take_iff_getElem.2 ⟨i, by omega, rfl⟩)
    simpa using h2
theorem ship1_ok (h : VOk qs cs bs hs d) {x : Sh} (hx : ship1 cs bs d x = 0) : ShOk cs d qs.length x ∧ (0 ≤ x.c ∧ x.c < (cs.length : Int)) ∧ (d.r ≤ x.t ∧ x.t < d.e) ∧ ∀ P, cross cs P x ≤ conB cs bs d P x.c x.t := by
  unfold ship1 at hx
  split at hx
  · omega
  rename_i h1
  cases hc : cs[x.c.toNat]? with
  | none => rw [hc] at hx; simp at hx
  | some c =>
    rw [hc] at hx
    dsimp only at hx
    split at hx
    · omega
    rename_i h2
    split at hx
    · omega
    rename_i h3
    split at hx
    · omega
    rename_i h4
    have hct : ctOf cs x = c := by unfold ctOf; rw [List.getD_eq_getElem?_getD, hc]; rfl
    have hok := h.ct c (List.mem_of_getElem? hc)
    have harr : arrOf cs x = x.t + 1 + c.g := by unfold arrOf; rw [hct]
    refine ⟨⟨by rw [hct]; exact hok.1, by rw [hct]; exact hok.2.1, by omega, by omega⟩, by omega, by omega, fun P => ?_⟩
    unfold cross conB
    rw [hc, hct, harr]
    dsimp only
    have hb : bookedB bs x.c x.t = false := by simpa using h4
    by_cases hP : (P c.f x.t && !P c.t (x.t + 1 + c.g)) = true
    · rw [if_pos (show c.s ≤ x.t ∧ x.t < c.e ∧ x.t + 1 + c.g ≤ d.e ∧ bookedB bs x.c x.t = false ∧ (P c.f x.t && !P c.t (x.t + 1 + c.g)) = true from ⟨by omega, by omega, by omega, hb, hP⟩)]
      split <;> split <;> omega
    · rw [if_neg (show ¬ (c.s ≤ x.t ∧ x.t < c.e ∧ x.t + 1 + c.g ≤ d.e ∧ bookedB bs x.c x.t = false ∧ (P c.f x.t && !P c.t (x.t + 1 + c.g)) = true) from fun h => hP h.2.2.2.2)]
      revert hP
      cases P c.f x.t <;> cases P c.t (x.t + 1 + c.g) <;> simp <;> omega
theorem ships_le_cap (h : VOk qs cs bs hs d) {l : List Sh} {n : Int} (hn : flowR qs cs bs hs d l = (n, 0)) {P : Int → Int → Bool} (h1 : P d.s d.r = true) (h2 : P d.d d.e = false) : n ≤ capB qs cs bs hs d P := by
  have hdm := h.dm
  unfold flowR at hn
  split at hn
  · simp at hn
  split at hn
  · rename_i _ h3
    rw [Prod.mk.injEq] at hn
    exact absurd hn.2 h3
  rename_i _ h3
  split at hn
  · simp at hn
  rename_i hcf
  split at hn
  · simp at hn
  rename_i hfl
  rw [Prod.mk.injEq] at hn
  obtain ⟨f1, f2⟩ := ships_facts (Decidable.not_not.1 h3)
  have hcf' : conflB qs.length cs d l = false := by simpa using hcf
  have hfl' : fullB qs cs hs d l = false := by simpa using hfl
  have hall : ∀ x ∈ l, ShOk cs d qs.length x := fun x hx => (ship1_ok h (f1 x hx)).1
  have e1 := ends_val hdm hall hcf' h1 h2
  have e2 := wsum_eq (P := P) hall
  have hd2 := hdm
  unfold okDm at hd2
  have e3 := wsum_le (P := P) hcf' hfl' (by omega)
  have e4 : lsum (cross cs P) l ≤ lsum (fun x => conB cs bs d P x.c x.t) l := lsum_le (fun x hx => (ship1_ok h (f1 x hx)).2.2.2 P)
  have e5 := keys_le (a := d.r) (e := d.e) (m := cs.length) (l := l) (φ := conB cs bs d P) (fun (i t : Int) hi hm => by
    obtain ⟨k, rfl⟩ := Int.eq_ofNat_of_zero_le hi
    exact (conB_nonneg h P (by omega) t).1) (fun x hx => by have := (ship1_ok h (f1 x hx)).2; exact ⟨this.1, this.2.1⟩) f2
  unfold capB
  omega
theorem ships_le_max (h : VOk qs cs bs hs d) {F : List Int} {m : Int} (hm : MaxN qs cs bs hs d F m 0) {l : List Sh} {n : Int} (hn : flowR qs cs bs hs d l = (n, 0)) : n ≤ m := by
  obtain ⟨_, _, _, _, _, _, _, _, _, P, p1, p2, p3⟩ := max_cut h hm
  rw [p3]
  exact ships_le_cap h hn p1 p2
theorem max_le_capR (h : VOk qs cs bs hs d) {F : List Int} {m : Int} (hm : MaxN qs cs bs hs d F m 0) {c : Cu} {k : Int} (hk : capR qs cs bs hs d c = (k, 0)) : m ≤ k := by
  obtain ⟨_, N, S, T, hN, hS, hT, hf, hv, _⟩ := max_cut h hm
  unfold capR at hk
  split at hk
  · simp at hk
  split at hk
  · simp at hk
  split at hk
  · simp at hk
  split at hk
  · simp at hk
  rename_i h1
  rw [Prod.mk.injEq] at hk
  rw [← hk.1, capSum_B, hv]
  rw [not_or] at h1
  exact flow_le_cap h hN hS hT hf (P := fun n t => hasI (cuAt c n) t) (by simpa using h1.1) (by simpa using h1.2)
theorem checkR_right (h : VOk qs cs bs hs d) {F : List Int} {m : Int} (hm : MaxN qs cs bs hs d F m 0) {acc : Bool} {vol : Int} {l : List Sh} {c : Cu} (hk : checkR qs cs bs hs d acc vol l c = 0) : acc = decide (d.v ≤ m) := by
  unfold checkR at hk
  cases acc with
  | true =>
    rw [if_pos rfl] at hk
    split at hk
    · omega
    rename_i h1
    split at hk
    · omega
    rename_i h2
    have := ships_le_max h hm (l := l) (n := (flowR qs cs bs hs d l).1) (by rw [← Decidable.not_not.1 h1])
    rw [decide_eq_true (by omega)]
  | false =>
    rw [if_neg (by simp)] at hk
    split at hk
    · omega
    rename_i h1
    split at hk
    · omega
    rename_i h2
    have := max_le_capR h hm (c := c) (k := (capR qs cs bs hs d c).1) (by rw [← Decidable.not_not.1 h1])
    rw [decide_eq_false (by omega)]
end
end Go.Step
/- Shipments against cuts. -/
namespace Go.Proofs.YtknfhiolenobaaaGreat
open Go.Eng Go.Step
set_option maxRecDepth 100000
set_option maxHeartbeats 4000000

theorem flow_zero {qs : List Int} {cs : List Ct} {bs : List Bk} {hs : List Hd} {d : Dm} (hv : validT qs cs bs hs d = false) (l : List Sh) : flowR qs cs bs hs d l = (0, 1) := by unfold flowR; rw [if_pos hv]
theorem cap_zero {qs : List Int} {cs : List Ct} {bs : List Bk} {hs : List Hd} {d : Dm} (hv : validT qs cs bs hs d = false) (c : Cu) : capR qs cs bs hs d c = (0, 1) := by unfold capR; rw [if_pos hv]
theorem chk_zero {qs : List Int} {cs : List Ct} {bs : List Bk} {hs : List Hd} {d : Dm} (hv : validT qs cs bs hs d = false) (acc : Bool) (vol : Int) (l : List Sh) (c : Cu) : checkR qs cs bs hs d acc vol l c = 1 := by
 unfold checkR
 rw [flow_zero hv, cap_zero hv]
 cases acc <;> rfl
set_option maxHeartbeats 64000000 in
theorem weak_law {ρ τ σ υ : PH} {pq pc pb ph : Option Addr} {kq kc kb kh : Nat} {qs : List Int} {cs : List Ct} {bs : List Bk} {hs : List Hd} (hT : TbAt ρ τ σ υ pq pc pb ph kq kc kb kh qs cs bs hs) (ω ω2 γ κ γ2 κ2 : PH) (d : Dm) (q : Option Addr) (kl : Nat) (l : List Sh) (hl : ShAt ω (.slice q l.length kl) l) (p : Option Addr) (kk : Nat) (c : Cu) (hc : CutRow γ κ p c) (hcl : c.length ≤ 9223372036854775807) (acc : Bool) (vol : Int) (q2 : Option Addr) (kl2 : Nat) (l2 : List Sh) (hl2 : ShAt ω2 (.slice q2 l2.length kl2) l2) (hll2 : l2.length ≤ 9223372036854775807) (p2 : Option Addr) (kk2 : Nat) (c2 : Cu) (hc2 : CutRow γ2 κ2 p2 c2) (hcl2 : c2.length ≤ 9223372036854775807) :
  Ans Tryz.prog (fv 3) [.agg #[.slice pq qs.length kq, .slice pc cs.length kc, .slice pb bs.length kb, .slice ph hs.length kh], .agg #[int d.s, int d.d, int d.v, int d.r, int d.e], .slice q l.length kl, .slice p c.length kk, .agg #[.bool acc, int vol, .slice q2 l2.length kl2, .slice p2 c2.length kk2]] [ρ, τ, σ, υ, ω, ω2, γ, κ, γ2, κ2] (fun r => r = .bool true) := by
 have hgr := great55_spec pq pc pb ph q kq kc kb kh kl qs.length cs.length bs.length hs.length l.length d
 refine spec_in (cap := []) Tryz.func3 rfl rfl Tryz.ntmps3 rfl envZ (fun N β => ?_)
 refine AC ?_
 refine AA ?_
 refine BT (BV rfl) rfl rfl rfl ?_
 rintro _ _ ⟨b1, rfl, rfl⟩
 refine AV (ρ := sng b1 _) takeZ ?_
 have ct : RdN (sng b1 (.cells #[.slice pq qs.length kq, .slice pc cs.length kc, .slice pb bs.length kb, .slice ph hs.length kh] 29 (0, 0))) b1 0 [.slice pq qs.length kq, .slice pc cs.length kc, .slice pb bs.length kb, .slice ph hs.length kh] := rdN_sng (vs := [.slice pq qs.length kq, .slice pc cs.length kc, .slice pb bs.length kb, .slice ph hs.length kh])
 have ct0 : rdc (sng b1 (.cells #[.slice pq qs.length kq, .slice pc cs.length kc, .slice pb bs.length kb, .slice ph hs.length kh] 29 (0, 0))) b1 0 = some (.slice pq qs.length kq) := by rw [rdc_sng]; rfl
 have ct1 : rdc (sng b1 (.cells #[.slice pq qs.length kq, .slice pc cs.length kc, .slice pb bs.length kb, .slice ph hs.length kh] 29 (0, 0))) b1 1 = some (.slice pc cs.length kc) := by rw [rdc_sng]; rfl
 have ct2 : rdc (sng b1 (.cells #[.slice pq qs.length kq, .slice pc cs.length kc, .slice pb bs.length kb, .slice ph hs.length kh] 29 (0, 0))) b1 2 = some (.slice pb bs.length kb) := by rw [rdc_sng]; rfl
 have ct3 : rdc (sng b1 (.cells #[.slice pq qs.length kq, .slice pc cs.length kc, .slice pb bs.length kb, .slice ph hs.length kh] 29 (0, 0))) b1 3 = some (.slice ph hs.length kh) := by rw [rdc_sng]; rfl
 have ctp : RdP (sng b1 (.cells #[.slice pq qs.length kq, .slice pc cs.length kc, .slice pb bs.length kb, .slice ph hs.length kh] 29 (0, 0))) b1 0 [.slice pq qs.length kq, .slice pc cs.length kc] := rdP_sng (xs := [.slice pq qs.length kq, .slice pc cs.length kc, .slice pb bs.length kb, .slice ph hs.length kh]) rfl
 refine BT (BV rfl) rfl rfl rfl ?_
 rintro _ _ ⟨b2, rfl, rfl⟩
 refine AV (ρ := sng b2 _) takeZ ?_
 have cd : RdN (sng b2 (.cells #[int d.s, int d.d, int d.v, int d.r, int d.e] 31 (0, 0))) b2 0 [int d.s, int d.d, int d.v, int d.r, int d.e] := rdN_sng (vs := [int d.s, int d.d, int d.v, int d.r, int d.e])
 have cd0 : rdc (sng b2 (.cells #[int d.s, int d.d, int d.v, int d.r, int d.e] 31 (0, 0))) b2 0 = some (int d.s) := by rw [rdc_sng]; rfl
 have cd1 : rdc (sng b2 (.cells #[int d.s, int d.d, int d.v, int d.r, int d.e] 31 (0, 0))) b2 1 = some (int d.d) := by rw [rdc_sng]; rfl
 have cd2 : rdc (sng b2 (.cells #[int d.s, int d.d, int d.v, int d.r, int d.e] 31 (0, 0))) b2 2 = some (int d.v) := by rw [rdc_sng]; rfl
 have cd3 : rdc (sng b2 (.cells #[int d.s, int d.d, int d.v, int d.r, int d.e] 31 (0, 0))) b2 3 = some (int d.r) := by rw [rdc_sng]; rfl
 have cd4 : rdc (sng b2 (.cells #[int d.s, int d.d, int d.v, int d.r, int d.e] 31 (0, 0))) b2 4 = some (int d.e) := by rw [rdc_sng]; rfl
 refine BT (BV rfl) rfl rfl rfl ?_
 rintro _ _ ⟨b3, rfl, rfl⟩
 refine AV (ρ := sng b3 _) takeZ ?_
 have ca : RdN (sng b3 (.cells #[.bool acc, int vol, .slice q2 l2.length kl2, .slice p2 c2.length kk2] 36 (0, 0))) b3 0 [.bool acc, int vol, .slice q2 l2.length kl2, .slice p2 c2.length kk2] := rdN_sng (vs := [.bool acc, int vol, .slice q2 l2.length kl2, .slice p2 c2.length kk2])
 have ca0 : rdc (sng b3 (.cells #[.bool acc, int vol, .slice q2 l2.length kl2, .slice p2 c2.length kk2] 36 (0, 0))) b3 0 = some (.bool acc) := by rw [rdc_sng]; rfl
 have ca1 : rdc (sng b3 (.cells #[.bool acc, int vol, .slice q2 l2.length kl2, .slice p2 c2.length kk2] 36 (0, 0))) b3 1 = some (int vol) := by rw [rdc_sng]; rfl
 have ca2 : rdc (sng b3 (.cells #[.bool acc, int vol, .slice q2 l2.length kl2, .slice p2 c2.length kk2] 36 (0, 0))) b3 2 = some (.slice q2 l2.length kl2) := by rw [rdc_sng]; rfl
 have ca3 : rdc (sng b3 (.cells #[.bool acc, int vol, .slice q2 l2.length kl2, .slice p2 c2.length kk2] 36 (0, 0))) b3 3 = some (.slice p2 c2.length kk2) := by rw [rdc_sng]; rfl
 refine AD ?_
 refine AF ?_
 refine AC ?_
 refine AC ?_
 refine AA ?_
 refine AM ?_
 refine AM ?_
 refine AB ?_
 refine AT hgr rfl rfl rdZ rfl rfl ?_
 rintro _ ⟨b, rfl, hg⟩
 cases b with
 | true =>
  refine AB ?_
  refine AE rfl rfl rfl ?_
  refine AE rfl rfl rfl ?_
  refine AK ?_
  refine AB ?_
  refine AE rfl rfl rfl ?_
  refine AE rfl rfl rfl ?_
  refine AE rfl rfl rfl ?_
  refine AE rfl rfl rfl ?_
  refine AK ?_
  refine AB ?_
  refine AE rfl rfl rfl ?_
  refine AE rfl rfl rfl ?_
  refine AE rfl rfl rfl ?_
  refine AK ?_
  refine AF ?_
  refine AO rfl ?_
  refine AC ?_
  refine AA ?_
  refine AT awake55_spec rfl rfl rdZ rfl rfl ?_
  rintro _ rfl
  refine AD ?_
  refine AF ?_
  exact AJ (res1 rfl rfl) rsubZ selZ ⟨rfl, rfl⟩
 | false =>
 obtain ⟨_, hll⟩ := hg rfl
 refine AB ?_
 refine AB ?_
 refine AT (refGreatC_spec γ κ p kk c hc hcl) rfl rfl rdZ rfl rfl ?_
 rintro _ rfl
 cases hgc : greatC c with
 | true =>
  refine AI ?_
  refine AB ?_
  refine AE rfl rfl rfl ?_
  refine AE rfl rfl rfl ?_
  refine AE rfl rfl rfl ?_
  refine AE rfl rfl rfl ?_
  refine AK ?_
  refine AB ?_
  refine AE rfl rfl rfl ?_
  refine AE rfl rfl rfl ?_
  refine AE rfl rfl rfl ?_
  refine AK ?_
  refine AF ?_
  refine AO rfl ?_
  refine AC ?_
  refine AA ?_
  refine AT awake55_spec rfl rfl rdZ rfl rfl ?_
  rintro _ rfl
  refine AD ?_
  refine AF ?_
  exact AJ (res1 rfl rfl) rsubZ selZ ⟨rfl, rfl⟩
 | false =>
 by_cases hl60 : 60 < l2.length
 ·refine AI ?_
  refine AB ?_
  refine AH ?_
  refine AG ?_
  refine A0 ?_
  refine CM ?_
  refine AI ?_
  refine AB ?_
  refine AE rfl rfl rfl ?_
  refine AE rfl rfl rfl ?_
  refine AE rfl rfl rfl ?_
  refine AK ?_
  refine AF ?_
  refine AO rfl ?_
  refine AC ?_
  refine AA ?_
  refine AT awake55_spec rfl rfl rdZ rfl rfl ?_
  rintro _ rfl
  refine AD ?_
  refine AF ?_
  exact AJ (res1 rfl rfl) rsubZ selZ ⟨rfl, rfl⟩
 refine AI ?_
 refine AB ?_
 refine AH ?_
 refine AG ?_
 refine A0 ?_
 refine BL ?_
 refine AI ?_
 refine AB ?_
 refine AH ?_
 refine AG ?_
 refine AT (refGreatC_spec γ2 κ2 p2 kk2 c2 hc2 hcl2) rfl rfl rdZ rfl rfl ?_
 rintro _ rfl
 cases hgc2 : greatC c2 with
 | true =>
  refine AI ?_
  refine AF ?_
  refine AO rfl ?_
  refine AC ?_
  refine AA ?_
  refine AT awake55_spec rfl rfl rdZ rfl rfl ?_
  rintro _ rfl
  refine AD ?_
  refine AF ?_
  exact AJ (res1 rfl rfl) rsubZ selZ ⟨rfl, rfl⟩
 | false =>
 have hF := certFlow_spec ω hT d _ _ hl (by omega)
 have hC := certCap_spec hT γ κ d p kk c hc hcl
 have hK := certChk_spec ω2 hT γ2 κ2 d acc vol q2 kl2 l2 hl2 (by omega) p2 kk2 c2 hc2 hcl2
 cases hv : validT qs cs bs hs d with
 | false =>
  rw [flow_zero hv] at hF
  rw [cap_zero hv] at hC
  rw [chk_zero hv] at hK
  refine AI ?_
  refine AF ?_
  refine AN rfl ?_
  refine AL ?_
  refine AC ?_
  refine AA ?_
  refine AM ?_
  refine AM ?_
  refine AB ?_
  refine AT hF rfl rfl rdZ rfl rfl ?_
  rintro _ rfl
  refine AB ?_
  refine AP ?_
  refine AP ?_
  refine AD ?_
  refine AD ?_
  refine AF ?_
  refine AC ?_
  refine AA ?_
  refine AM ?_
  refine AM ?_
  refine AB ?_
  refine AT hC rfl rfl rdZ rfl rfl ?_
  rintro _ rfl
  refine AB ?_
  refine AP ?_
  refine AP ?_
  refine AD ?_
  refine AD ?_
  refine AF ?_
  refine AC ?_
  refine AA ?_
  refine AM ?_
  refine AM ?_
  refine AT (Most_spec hT d) rfl rfl rdZ rfl rfl ?_
  rintro _ (⟨hv2, F, m, hm, rfl⟩ | ⟨hv2, rfl⟩)
  ·rw [hv] at hv2; simp at hv2
  refine AB ?_
  refine AP ?_
  refine AP ?_
  refine AD ?_
  refine AD ?_
  refine AF ?_
  refine AC ?_
  refine AC ?_
  refine AA ?_
  refine AB ?_
  refine BH ?_
  refine AB ?_
  refine AE rfl rfl rfl ?_
  refine AE rfl rfl rfl ?_
  refine AI ?_
  refine AB ?_
  refine AE rfl rfl rfl ?_
  refine AE rfl rfl rfl ?_
  refine AE rfl rfl rfl ?_
  refine AI ?_
  refine AF ?_
  refine AN rfl ?_
  refine AL ?_
  refine AC ?_
  refine AC ?_
  refine AA ?_
  refine AB ?_
  refine BH ?_
  refine AB ?_
  refine AE rfl rfl rfl ?_
  refine AE rfl rfl rfl ?_
  refine AE rfl rfl rfl ?_
  refine AE rfl rfl rfl ?_
  refine AE rfl rfl rfl ?_
  refine AE rfl rfl rfl ?_
  refine AE rfl rfl rfl ?_
  refine AI ?_
  refine AB ?_
  refine AB ?_
  refine BH ?_
  refine AB ?_
  refine AE rfl rfl rfl ?_
  refine AE rfl rfl rfl ?_
  refine AE rfl rfl rfl ?_
  refine AE rfl rfl rfl ?_
  refine AE rfl rfl rfl ?_
  refine AE rfl rfl rfl ?_
  refine AE rfl rfl rfl ?_
  refine AI ?_
  refine AI ?_
  refine AF ?_
  refine AN rfl ?_
  refine AL ?_
  refine AC ?_
  refine AA ?_
  refine AM ?_
  refine AM ?_
  refine AM ?_
  refine AT hK rfl rfl rdZ rfl rfl ?_
  rintro _ rfl
  refine CC ?_
  refine AB ?_
  refine AE rfl rfl rfl ?_
  refine AE rfl rfl rfl ?_
  refine AE rfl rfl rfl ?_
  refine AE rfl rfl rfl ?_
  refine AE rfl rfl rfl ?_
  refine AE rfl rfl rfl ?_
  refine AE rfl rfl rfl ?_
  refine AK ?_
  refine AB ?_
  refine AT awake55_spec rfl rfl rdZ rfl rfl ?_
  rintro _ rfl
  refine AK ?_
  refine AD ?_
  refine AF ?_
  exact AJ (res1 rfl rfl) rsubZ selZ ⟨rfl, rfl⟩
 | true =>
 have h := vok hv
 have A1 : ∀ (F : List Int) (m : Int), MaxN qs cs bs hs d F m 0 → (flowR qs cs bs hs d l).2 = 0 → (flowR qs cs bs hs d l).1 ≤ m := fun F m hm h0 => ships_le_max h hm (l := l) (n := (flowR qs cs bs hs d l).1) (by rw [← h0])
 have A2 : ∀ (F : List Int) (m : Int), MaxN qs cs bs hs d F m 0 → (capR qs cs bs hs d c).2 = 0 → m ≤ (capR qs cs bs hs d c).1 := fun F m hm h0 => max_le_capR h hm (c := c) (k := (capR qs cs bs hs d c).1) (by rw [← h0])
 have A3 : ∀ (F : List Int) (m : Int), MaxN qs cs bs hs d F m 0 → checkR qs cs bs hs d acc vol l2 c2 = 0 → acc = decide (d.v ≤ m) := fun F m hm h0 => checkR_right h hm h0
 generalize (flowR qs cs bs hs d l).1 = n, (flowR qs cs bs hs d l).2 = e1 at hF A1
 generalize (capR qs cs bs hs d c).1 = k, (capR qs cs bs hs d c).2 = e2 at hC A2
 generalize checkR qs cs bs hs d acc vol l2 c2 = z at hK A3
 refine AI ?_
 refine AF ?_
 refine AN rfl ?_
 refine AL ?_
 refine AC ?_
 refine AA ?_
 refine AM ?_
 refine AM ?_
 refine AB ?_
 refine AT hF rfl rfl rdZ rfl rfl ?_
 rintro _ rfl
 refine AB ?_
 refine AP ?_
 refine AP ?_
 refine AD ?_
 refine AD ?_
 refine AF ?_
 refine AC ?_
 refine AA ?_
 refine AM ?_
 refine AM ?_
 refine AB ?_
 refine AT hC rfl rfl rdZ rfl rfl ?_
 rintro _ rfl
 refine AB ?_
 refine AP ?_
 refine AP ?_
 refine AD ?_
 refine AD ?_
 refine AF ?_
 refine AC ?_
 refine AA ?_
 refine AM ?_
 refine AM ?_
 refine AT (Most_spec hT d) rfl rfl rdZ rfl rfl ?_
 rintro _ (⟨_, F, m, hm, rfl⟩ | ⟨hv2, rfl⟩)
 rotate_left
 ·rw [hv] at hv2; simp at hv2
 have B1 := A1 F m hm
 have B2 := A2 F m hm
 have B3 := A3 F m hm
 clear A1 A2 A3
 by_cases h1 : e1 = 0
 ·have C1 := B1 h1
  subst h1
  by_cases h2 : e2 = 0
  ·have C2 := B2 h2
   subst h2
   have C3 : ¬ k < n := by omega
   by_cases hz : z = 0
   rotate_left
   ·refine AB ?_
    refine AP ?_
    refine AP ?_
    refine AD ?_
    refine AD ?_
    refine AF ?_
    refine AC ?_
    refine AC ?_
    refine AA ?_
    refine AB ?_
    refine B7 ?_
    refine AB ?_
    refine AB ?_
    refine B7 ?_
    refine AK ?_
    refine AB ?_
    refine AB ?_
    refine AB ?_
    refine BL ?_
    refine AK ?_
    refine AF ?_
    refine AN rfl ?_
    refine AL ?_
    refine AC ?_
    refine AC ?_
    refine AA ?_
    refine AB ?_
    refine B7 ?_
    refine AB ?_
    refine AB ?_
    refine A6 ?_
    refine AB ?_
    refine AB ?_
    refine AB ?_
    refine BL ?_
    refine AI ?_
    refine AK ?_
    refine AB ?_
    refine AB ?_
    refine B7 ?_
    refine AB ?_
    refine AB ?_
    refine A6 ?_
    refine AB ?_
    refine AB ?_
    refine AB ?_
    refine AZ ?_
    refine AI ?_
    refine AK ?_
    refine AI ?_
    refine AF ?_
    refine AN rfl ?_
    refine AL ?_
    refine AC ?_
    refine AA ?_
    refine AM ?_
    refine AM ?_
    refine AM ?_
    refine AT hK rfl rfl rdZ rfl rfl ?_
    rintro _ rfl
    refine CC ?_
    refine AB ?_
    refine AE rfl rfl rfl ?_
    refine AE rfl rfl rfl ?_
    refine AE rfl rfl rfl ?_
    refine AE rfl rfl rfl ?_
    refine AE rfl rfl rfl ?_
    refine AE rfl rfl rfl ?_
    refine AE rfl rfl rfl ?_
    refine AK ?_
    refine AB ?_
    refine AT awake55_spec rfl rfl rdZ rfl rfl ?_
    rintro _ rfl
    refine AK ?_
    refine AD ?_
    refine AF ?_
    exact AJ (res1 rfl rfl) rsubZ selZ ⟨rfl, rfl⟩
   subst hz
   have B4 := B3 rfl
   by_cases hm2 : d.v ≤ m
   ·rw [decide_eq_true hm2] at B4
    subst B4
    refine AB ?_
    refine AP ?_
    refine AP ?_
    refine AD ?_
    refine AD ?_
    refine AF ?_
    refine AC ?_
    refine AC ?_
    refine AA ?_
    refine AB ?_
    refine B7 ?_
    refine AB ?_
    refine AB ?_
    refine B7 ?_
    refine AK ?_
    refine AB ?_
    refine AB ?_
    refine AB ?_
    refine BL ?_
    refine AK ?_
    refine AF ?_
    refine AN rfl ?_
    refine AL ?_
    refine AC ?_
    refine AC ?_
    refine AA ?_
    refine AB ?_
    refine B7 ?_
    refine AB ?_
    refine AB ?_
    refine A6 ?_
    refine AB ?_
    refine AB ?_
    refine AB ?_
    refine BL ?_
    refine AI ?_
    refine AK ?_
    refine AB ?_
    refine AB ?_
    refine B7 ?_
    refine AB ?_
    refine AB ?_
    refine A6 ?_
    refine AB ?_
    refine AB ?_
    refine AB ?_
    refine AZ ?_
    refine AI ?_
    refine AK ?_
    refine AI ?_
    refine AF ?_
    refine AN rfl ?_
    refine AL ?_
    refine AC ?_
    refine AA ?_
    refine AM ?_
    refine AM ?_
    refine AM ?_
    refine AT hK rfl rfl rdZ rfl rfl ?_
    rintro _ rfl
    refine A6 ?_
    refine AB ?_
    refine AH ?_
    refine AG ?_
    refine AH ?_
    refine AG ?_
    refine AB ?_
    refine CU ?_
    refine BR ?_
    refine AI ?_
    refine AB ?_
    refine AT awake55_spec rfl rfl rdZ rfl rfl ?_
    rintro _ rfl
    refine AK ?_
    refine AD ?_
    refine AF ?_
    exact AJ (res1 rfl rfl) rsubZ selZ ⟨rfl, rfl⟩
   ·rw [decide_eq_false hm2] at B4
    subst B4
    refine AB ?_
    refine AP ?_
    refine AP ?_
    refine AD ?_
    refine AD ?_
    refine AF ?_
    refine AC ?_
    refine AC ?_
    refine AA ?_
    refine AB ?_
    refine B7 ?_
    refine AB ?_
    refine AB ?_
    refine B7 ?_
    refine AK ?_
    refine AB ?_
    refine AB ?_
    refine AB ?_
    refine BL ?_
    refine AK ?_
    refine AF ?_
    refine AN rfl ?_
    refine AL ?_
    refine AC ?_
    refine AC ?_
    refine AA ?_
    refine AB ?_
    refine B7 ?_
    refine AB ?_
    refine AB ?_
    refine A6 ?_
    refine AB ?_
    refine AB ?_
    refine AB ?_
    refine BL ?_
    refine AI ?_
    refine AK ?_
    refine AB ?_
    refine AB ?_
    refine B7 ?_
    refine AB ?_
    refine AB ?_
    refine A6 ?_
    refine AB ?_
    refine AB ?_
    refine AB ?_
    refine AZ ?_
    refine AI ?_
    refine AK ?_
    refine AI ?_
    refine AF ?_
    refine AN rfl ?_
    refine AL ?_
    refine AC ?_
    refine AA ?_
    refine AM ?_
    refine AM ?_
    refine AM ?_
    refine AT hK rfl rfl rdZ rfl rfl ?_
    rintro _ rfl
    refine A6 ?_
    refine AB ?_
    refine AH ?_
    refine AG ?_
    refine AH ?_
    refine AG ?_
    refine AB ?_
    refine CD ?_
    refine BR ?_
    refine AI ?_
    refine AB ?_
    refine AT awake55_spec rfl rfl rdZ rfl rfl ?_
    rintro _ rfl
    refine AK ?_
    refine AD ?_
    refine AF ?_
    exact AJ (res1 rfl rfl) rsubZ selZ ⟨rfl, rfl⟩
  ·skip
   by_cases hz : z = 0
   rotate_left
   ·refine AB ?_
    refine AP ?_
    refine AP ?_
    refine AD ?_
    refine AD ?_
    refine AF ?_
    refine AC ?_
    refine AC ?_
    refine AA ?_
    refine AB ?_
    refine B7 ?_
    refine AB ?_
    refine AB ?_
    refine BH ?_
    refine AK ?_
    refine AB ?_
    refine AE rfl rfl rfl ?_
    refine AE rfl rfl rfl ?_
    refine AE rfl rfl rfl ?_
    refine AI ?_
    refine AF ?_
    refine AN rfl ?_
    refine AL ?_
    refine AC ?_
    refine AC ?_
    refine AA ?_
    refine AB ?_
    refine B7 ?_
    refine AB ?_
    refine AB ?_
    refine A6 ?_
    refine AB ?_
    refine AB ?_
    refine AB ?_
    refine BL ?_
    refine AI ?_
    refine AK ?_
    refine AB ?_
    refine AB ?_
    refine BH ?_
    refine AB ?_
    refine AE rfl rfl rfl ?_
    refine AE rfl rfl rfl ?_
    refine AE rfl rfl rfl ?_
    refine AE rfl rfl rfl ?_
    refine AE rfl rfl rfl ?_
    refine AE rfl rfl rfl ?_
    refine AE rfl rfl rfl ?_
    refine AI ?_
    refine AI ?_
    refine AF ?_
    refine AN rfl ?_
    refine AL ?_
    refine AC ?_
    refine AA ?_
    refine AM ?_
    refine AM ?_
    refine AM ?_
    refine AT hK rfl rfl rdZ rfl rfl ?_
    rintro _ rfl
    refine CC ?_
    refine AB ?_
    refine AE rfl rfl rfl ?_
    refine AE rfl rfl rfl ?_
    refine AE rfl rfl rfl ?_
    refine AE rfl rfl rfl ?_
    refine AE rfl rfl rfl ?_
    refine AE rfl rfl rfl ?_
    refine AE rfl rfl rfl ?_
    refine AK ?_
    refine AB ?_
    refine AT awake55_spec rfl rfl rdZ rfl rfl ?_
    rintro _ rfl
    refine AK ?_
    refine AD ?_
    refine AF ?_
    exact AJ (res1 rfl rfl) rsubZ selZ ⟨rfl, rfl⟩
   subst hz
   have B4 := B3 rfl
   by_cases hm2 : d.v ≤ m
   ·rw [decide_eq_true hm2] at B4
    subst B4
    refine AB ?_
    refine AP ?_
    refine AP ?_
    refine AD ?_
    refine AD ?_
    refine AF ?_
    refine AC ?_
    refine AC ?_
    refine AA ?_
    refine AB ?_
    refine B7 ?_
    refine AB ?_
    refine AB ?_
    refine BH ?_
    refine AK ?_
    refine AB ?_
    refine AE rfl rfl rfl ?_
    refine AE rfl rfl rfl ?_
    refine AE rfl rfl rfl ?_
    refine AI ?_
    refine AF ?_
    refine AN rfl ?_
    refine AL ?_
    refine AC ?_
    refine AC ?_
    refine AA ?_
    refine AB ?_
    refine B7 ?_
    refine AB ?_
    refine AB ?_
    refine A6 ?_
    refine AB ?_
    refine AB ?_
    refine AB ?_
    refine BL ?_
    refine AI ?_
    refine AK ?_
    refine AB ?_
    refine AB ?_
    refine BH ?_
    refine AB ?_
    refine AE rfl rfl rfl ?_
    refine AE rfl rfl rfl ?_
    refine AE rfl rfl rfl ?_
    refine AE rfl rfl rfl ?_
    refine AE rfl rfl rfl ?_
    refine AE rfl rfl rfl ?_
    refine AE rfl rfl rfl ?_
    refine AI ?_
    refine AI ?_
    refine AF ?_
    refine AN rfl ?_
    refine AL ?_
    refine AC ?_
    refine AA ?_
    refine AM ?_
    refine AM ?_
    refine AM ?_
    refine AT hK rfl rfl rdZ rfl rfl ?_
    rintro _ rfl
    refine A6 ?_
    refine AB ?_
    refine AH ?_
    refine AG ?_
    refine AH ?_
    refine AG ?_
    refine AB ?_
    refine CU ?_
    refine BR ?_
    refine AI ?_
    refine AB ?_
    refine AT awake55_spec rfl rfl rdZ rfl rfl ?_
    rintro _ rfl
    refine AK ?_
    refine AD ?_
    refine AF ?_
    exact AJ (res1 rfl rfl) rsubZ selZ ⟨rfl, rfl⟩
   ·rw [decide_eq_false hm2] at B4
    subst B4
    refine AB ?_
    refine AP ?_
    refine AP ?_
    refine AD ?_
    refine AD ?_
    refine AF ?_
    refine AC ?_
    refine AC ?_
    refine AA ?_
    refine AB ?_
    refine B7 ?_
    refine AB ?_
    refine AB ?_
    refine BH ?_
    refine AK ?_
    refine AB ?_
    refine AE rfl rfl rfl ?_
    refine AE rfl rfl rfl ?_
    refine AE rfl rfl rfl ?_
    refine AI ?_
    refine AF ?_
    refine AN rfl ?_
    refine AL ?_
    refine AC ?_
    refine AC ?_
    refine AA ?_
    refine AB ?_
    refine B7 ?_
    refine AB ?_
    refine AB ?_
    refine A6 ?_
    refine AB ?_
    refine AB ?_
    refine AB ?_
    refine BL ?_
    refine AI ?_
    refine AK ?_
    refine AB ?_
    refine AB ?_
    refine BH ?_
    refine AB ?_
    refine AE rfl rfl rfl ?_
    refine AE rfl rfl rfl ?_
    refine AE rfl rfl rfl ?_
    refine AE rfl rfl rfl ?_
    refine AE rfl rfl rfl ?_
    refine AE rfl rfl rfl ?_
    refine AE rfl rfl rfl ?_
    refine AI ?_
    refine AI ?_
    refine AF ?_
    refine AN rfl ?_
    refine AL ?_
    refine AC ?_
    refine AA ?_
    refine AM ?_
    refine AM ?_
    refine AM ?_
    refine AT hK rfl rfl rdZ rfl rfl ?_
    rintro _ rfl
    refine A6 ?_
    refine AB ?_
    refine AH ?_
    refine AG ?_
    refine AH ?_
    refine AG ?_
    refine AB ?_
    refine CD ?_
    refine BR ?_
    refine AI ?_
    refine AB ?_
    refine AT awake55_spec rfl rfl rdZ rfl rfl ?_
    rintro _ rfl
    refine AK ?_
    refine AD ?_
    refine AF ?_
    exact AJ (res1 rfl rfl) rsubZ selZ ⟨rfl, rfl⟩
 ·by_cases h2 : e2 = 0
  ·have C2 := B2 h2
   subst h2
   by_cases hz : z = 0
   rotate_left
   ·refine AB ?_
    refine AP ?_
    refine AP ?_
    refine AD ?_
    refine AD ?_
    refine AF ?_
    refine AC ?_
    refine AC ?_
    refine AA ?_
    refine AB ?_
    refine BH ?_
    refine AB ?_
    refine AE rfl rfl rfl ?_
    refine AE rfl rfl rfl ?_
    refine AI ?_
    refine AB ?_
    refine AE rfl rfl rfl ?_
    refine AE rfl rfl rfl ?_
    refine AE rfl rfl rfl ?_
    refine AI ?_
    refine AF ?_
    refine AN rfl ?_
    refine AL ?_
    refine AC ?_
    refine AC ?_
    refine AA ?_
    refine AB ?_
    refine BH ?_
    refine AB ?_
    refine AE rfl rfl rfl ?_
    refine AE rfl rfl rfl ?_
    refine AE rfl rfl rfl ?_
    refine AE rfl rfl rfl ?_
    refine AE rfl rfl rfl ?_
    refine AE rfl rfl rfl ?_
    refine AE rfl rfl rfl ?_
    refine AI ?_
    refine AB ?_
    refine AB ?_
    refine B7 ?_
    refine AB ?_
    refine AB ?_
    refine A6 ?_
    refine AB ?_
    refine AB ?_
    refine AB ?_
    refine AZ ?_
    refine AI ?_
    refine AK ?_
    refine AI ?_
    refine AF ?_
    refine AN rfl ?_
    refine AL ?_
    refine AC ?_
    refine AA ?_
    refine AM ?_
    refine AM ?_
    refine AM ?_
    refine AT hK rfl rfl rdZ rfl rfl ?_
    rintro _ rfl
    refine CC ?_
    refine AB ?_
    refine AE rfl rfl rfl ?_
    refine AE rfl rfl rfl ?_
    refine AE rfl rfl rfl ?_
    refine AE rfl rfl rfl ?_
    refine AE rfl rfl rfl ?_
    refine AE rfl rfl rfl ?_
    refine AE rfl rfl rfl ?_
    refine AK ?_
    refine AB ?_
    refine AT awake55_spec rfl rfl rdZ rfl rfl ?_
    rintro _ rfl
    refine AK ?_
    refine AD ?_
    refine AF ?_
    exact AJ (res1 rfl rfl) rsubZ selZ ⟨rfl, rfl⟩
   subst hz
   have B4 := B3 rfl
   by_cases hm2 : d.v ≤ m
   ·rw [decide_eq_true hm2] at B4
    subst B4
    refine AB ?_
    refine AP ?_
    refine AP ?_
    refine AD ?_
    refine AD ?_
    refine AF ?_
    refine AC ?_
    refine AC ?_
    refine AA ?_
    refine AB ?_
    refine BH ?_
    refine AB ?_
    refine AE rfl rfl rfl ?_
    refine AE rfl rfl rfl ?_
    refine AI ?_
    refine AB ?_
    refine AE rfl rfl rfl ?_
    refine AE rfl rfl rfl ?_
    refine AE rfl rfl rfl ?_
    refine AI ?_
    refine AF ?_
    refine AN rfl ?_
    refine AL ?_
    refine AC ?_
    refine AC ?_
    refine AA ?_
    refine AB ?_
    refine BH ?_
    refine AB ?_
    refine AE rfl rfl rfl ?_
    refine AE rfl rfl rfl ?_
    refine AE rfl rfl rfl ?_
    refine AE rfl rfl rfl ?_
    refine AE rfl rfl rfl ?_
    refine AE rfl rfl rfl ?_
    refine AE rfl rfl rfl ?_
    refine AI ?_
    refine AB ?_
    refine AB ?_
    refine B7 ?_
    refine AB ?_
    refine AB ?_
    refine A6 ?_
    refine AB ?_
    refine AB ?_
    refine AB ?_
    refine AZ ?_
    refine AI ?_
    refine AK ?_
    refine AI ?_
    refine AF ?_
    refine AN rfl ?_
    refine AL ?_
    refine AC ?_
    refine AA ?_
    refine AM ?_
    refine AM ?_
    refine AM ?_
    refine AT hK rfl rfl rdZ rfl rfl ?_
    rintro _ rfl
    refine A6 ?_
    refine AB ?_
    refine AH ?_
    refine AG ?_
    refine AH ?_
    refine AG ?_
    refine AB ?_
    refine CU ?_
    refine BR ?_
    refine AI ?_
    refine AB ?_
    refine AT awake55_spec rfl rfl rdZ rfl rfl ?_
    rintro _ rfl
    refine AK ?_
    refine AD ?_
    refine AF ?_
    exact AJ (res1 rfl rfl) rsubZ selZ ⟨rfl, rfl⟩
   ·rw [decide_eq_false hm2] at B4
    subst B4
    refine AB ?_
    refine AP ?_
    refine AP ?_
    refine AD ?_
    refine AD ?_
    refine AF ?_
    refine AC ?_
    refine AC ?_
    refine AA ?_
    refine AB ?_
    refine BH ?_
    refine AB ?_
    refine AE rfl rfl rfl ?_
    refine AE rfl rfl rfl ?_
    refine AI ?_
    refine AB ?_
    refine AE rfl rfl rfl ?_
    refine AE rfl rfl rfl ?_
    refine AE rfl rfl rfl ?_
    refine AI ?_
    refine AF ?_
    refine AN rfl ?_
    refine AL ?_
    refine AC ?_
    refine AC ?_
    refine AA ?_
    refine AB ?_
    refine BH ?_
    refine AB ?_
    refine AE rfl rfl rfl ?_
    refine AE rfl rfl rfl ?_
    refine AE rfl rfl rfl ?_
    refine AE rfl rfl rfl ?_
    refine AE rfl rfl rfl ?_
    refine AE rfl rfl rfl ?_
    refine AE rfl rfl rfl ?_
    refine AI ?_
    refine AB ?_
    refine AB ?_
    refine B7 ?_
    refine AB ?_
    refine AB ?_
    refine A6 ?_
    refine AB ?_
    refine AB ?_
    refine AB ?_
    refine AZ ?_
    refine AI ?_
    refine AK ?_
    refine AI ?_
    refine AF ?_
    refine AN rfl ?_
    refine AL ?_
    refine AC ?_
    refine AA ?_
    refine AM ?_
    refine AM ?_
    refine AM ?_
    refine AT hK rfl rfl rdZ rfl rfl ?_
    rintro _ rfl
    refine A6 ?_
    refine AB ?_
    refine AH ?_
    refine AG ?_
    refine AH ?_
    refine AG ?_
    refine AB ?_
    refine CD ?_
    refine BR ?_
    refine AI ?_
    refine AB ?_
    refine AT awake55_spec rfl rfl rdZ rfl rfl ?_
    rintro _ rfl
    refine AK ?_
    refine AD ?_
    refine AF ?_
    exact AJ (res1 rfl rfl) rsubZ selZ ⟨rfl, rfl⟩
  ·skip
   by_cases hz : z = 0
   rotate_left
   ·refine AB ?_
    refine AP ?_
    refine AP ?_
    refine AD ?_
    refine AD ?_
    refine AF ?_
    refine AC ?_
    refine AC ?_
    refine AA ?_
    refine AB ?_
    refine BH ?_
    refine AB ?_
    refine AE rfl rfl rfl ?_
    refine AE rfl rfl rfl ?_
    refine AI ?_
    refine AB ?_
    refine AE rfl rfl rfl ?_
    refine AE rfl rfl rfl ?_
    refine AE rfl rfl rfl ?_
    refine AI ?_
    refine AF ?_
    refine AN rfl ?_
    refine AL ?_
    refine AC ?_
    refine AC ?_
    refine AA ?_
    refine AB ?_
    refine BH ?_
    refine AB ?_
    refine AE rfl rfl rfl ?_
    refine AE rfl rfl rfl ?_
    refine AE rfl rfl rfl ?_
    refine AE rfl rfl rfl ?_
    refine AE rfl rfl rfl ?_
    refine AE rfl rfl rfl ?_
    refine AE rfl rfl rfl ?_
    refine AI ?_
    refine AB ?_
    refine AB ?_
    refine BH ?_
    refine AB ?_
    refine AE rfl rfl rfl ?_
    refine AE rfl rfl rfl ?_
    refine AE rfl rfl rfl ?_
    refine AE rfl rfl rfl ?_
    refine AE rfl rfl rfl ?_
    refine AE rfl rfl rfl ?_
    refine AE rfl rfl rfl ?_
    refine AI ?_
    refine AI ?_
    refine AF ?_
    refine AN rfl ?_
    refine AL ?_
    refine AC ?_
    refine AA ?_
    refine AM ?_
    refine AM ?_
    refine AM ?_
    refine AT hK rfl rfl rdZ rfl rfl ?_
    rintro _ rfl
    refine CC ?_
    refine AB ?_
    refine AE rfl rfl rfl ?_
    refine AE rfl rfl rfl ?_
    refine AE rfl rfl rfl ?_
    refine AE rfl rfl rfl ?_
    refine AE rfl rfl rfl ?_
    refine AE rfl rfl rfl ?_
    refine AE rfl rfl rfl ?_
    refine AK ?_
    refine AB ?_
    refine AT awake55_spec rfl rfl rdZ rfl rfl ?_
    rintro _ rfl
    refine AK ?_
    refine AD ?_
    refine AF ?_
    exact AJ (res1 rfl rfl) rsubZ selZ ⟨rfl, rfl⟩
   subst hz
   have B4 := B3 rfl
   by_cases hm2 : d.v ≤ m
   ·rw [decide_eq_true hm2] at B4
    subst B4
    refine AB ?_
    refine AP ?_
    refine AP ?_
    refine AD ?_
    refine AD ?_
    refine AF ?_
    refine AC ?_
    refine AC ?_
    refine AA ?_
    refine AB ?_
    refine BH ?_
    refine AB ?_
    refine AE rfl rfl rfl ?_
    refine AE rfl rfl rfl ?_
    refine AI ?_
    refine AB ?_
    refine AE rfl rfl rfl ?_
    refine AE rfl rfl rfl ?_
    refine AE rfl rfl rfl ?_
    refine AI ?_
    refine AF ?_
    refine AN rfl ?_
    refine AL ?_
    refine AC ?_
    refine AC ?_
    refine AA ?_
    refine AB ?_
    refine BH ?_
    refine AB ?_
    refine AE rfl rfl rfl ?_
    refine AE rfl rfl rfl ?_
    refine AE rfl rfl rfl ?_
    refine AE rfl rfl rfl ?_
    refine AE rfl rfl rfl ?_
    refine AE rfl rfl rfl ?_
    refine AE rfl rfl rfl ?_
    refine AI ?_
    refine AB ?_
    refine AB ?_
    refine BH ?_
    refine AB ?_
    refine AE rfl rfl rfl ?_
    refine AE rfl rfl rfl ?_
    refine AE rfl rfl rfl ?_
    refine AE rfl rfl rfl ?_
    refine AE rfl rfl rfl ?_
    refine AE rfl rfl rfl ?_
    refine AE rfl rfl rfl ?_
    refine AI ?_
    refine AI ?_
    refine AF ?_
    refine AN rfl ?_
    refine AL ?_
    refine AC ?_
    refine AA ?_
    refine AM ?_
    refine AM ?_
    refine AM ?_
    refine AT hK rfl rfl rdZ rfl rfl ?_
    rintro _ rfl
    refine A6 ?_
    refine AB ?_
    refine AH ?_
    refine AG ?_
    refine AH ?_
    refine AG ?_
    refine AB ?_
    refine CU ?_
    refine BR ?_
    refine AI ?_
    refine AB ?_
    refine AT awake55_spec rfl rfl rdZ rfl rfl ?_
    rintro _ rfl
    refine AK ?_
    refine AD ?_
    refine AF ?_
    exact AJ (res1 rfl rfl) rsubZ selZ ⟨rfl, rfl⟩
   ·rw [decide_eq_false hm2] at B4
    subst B4
    refine AB ?_
    refine AP ?_
    refine AP ?_
    refine AD ?_
    refine AD ?_
    refine AF ?_
    refine AC ?_
    refine AC ?_
    refine AA ?_
    refine AB ?_
    refine BH ?_
    refine AB ?_
    refine AE rfl rfl rfl ?_
    refine AE rfl rfl rfl ?_
    refine AI ?_
    refine AB ?_
    refine AE rfl rfl rfl ?_
    refine AE rfl rfl rfl ?_
    refine AE rfl rfl rfl ?_
    refine AI ?_
    refine AF ?_
    refine AN rfl ?_
    refine AL ?_
    refine AC ?_
    refine AC ?_
    refine AA ?_
    refine AB ?_
    refine BH ?_
    refine AB ?_
    refine AE rfl rfl rfl ?_
    refine AE rfl rfl rfl ?_
    refine AE rfl rfl rfl ?_
    refine AE rfl rfl rfl ?_
    refine AE rfl rfl rfl ?_
    refine AE rfl rfl rfl ?_
    refine AE rfl rfl rfl ?_
    refine AI ?_
    refine AB ?_
    refine AB ?_
    refine BH ?_
    refine AB ?_
    refine AE rfl rfl rfl ?_
    refine AE rfl rfl rfl ?_
    refine AE rfl rfl rfl ?_
    refine AE rfl rfl rfl ?_
    refine AE rfl rfl rfl ?_
    refine AE rfl rfl rfl ?_
    refine AE rfl rfl rfl ?_
    refine AI ?_
    refine AI ?_
    refine AF ?_
    refine AN rfl ?_
    refine AL ?_
    refine AC ?_
    refine AA ?_
    refine AM ?_
    refine AM ?_
    refine AM ?_
    refine AT hK rfl rfl rdZ rfl rfl ?_
    rintro _ rfl
    refine A6 ?_
    refine AB ?_
    refine AH ?_
    refine AG ?_
    refine AH ?_
    refine AG ?_
    refine AB ?_
    refine CD ?_
    refine BR ?_
    refine AI ?_
    refine AB ?_
    refine AT awake55_spec rfl rfl rdZ rfl rfl ?_
    rintro _ rfl
    refine AK ?_
    refine AD ?_
    refine AF ?_
    exact AJ (res1 rfl rfl) rsubZ selZ ⟨rfl, rfl⟩
end Go.Proofs.YtknfhiolenobaaaGreat
/- The rows: each law, for every input. -/
namespace Go.Proofs.YtknfhiolenobaaaGreat
open Go.Eng Go.Step
set_option maxRecDepth 100000
set_option maxHeartbeats 4000000
open Go.ChangeShapes Go.WideShapes Go.ChangeAt Go.RowKit

set_option maxRecDepth 100000 in
theorem certificateWeak_lifted (os : Os) (started : os.Started) (H : Type) (enc : TypeId × Value → H) :
  ReturnsInHanded {} Tryz.checked os 3 .any (Rows.certificateWeakSpec.pre6 enc Tryz.prog Tryz.f3 Rows.certificateWeakRow.domain false) (Rows.certificateWeakSpec.post enc Tryz.prog Tryz.f3 false true false false) := by
 refine returnsInHanded_of_change (C := Tryz.checked) Tryz.own started (by kernel_rfl) Tryz.func3
  (ChangeSpec.witness6 (enc := enc) (C := Tryz.checked) false ⟨#[], #[.agg #[.slice none 0 0, .slice none 0 0, .slice none 0 0, .slice none 0 0], .agg #[.int .i64 0, .int .i64 0, .int .i64 0, .int .i64 0, .int .i64 0], .slice none 0 0, .slice none 0 0, .agg #[.bool false, .int .i64 0, .slice none 0 0, .slice none 0 0]], []⟩ 8 (by kernel_rfl) (by kernel_rfl) (by kernel_rfl) (by kernel_rfl)) ?_
 intro W base args ds gs before hval0 hW hcnd _
 have hval : ∀ (j : Nat) t v, Tryz.f3.params[j]? = some t → args[j]? = some v → Value.okWide Tryz.prog W .any base t v := hval0
 have hW' := hW
 obtain ⟨p, q, hA0, hV, rfl, hfz, hnd⟩ := hW
 have hA : DataW.TrodAll enc Tryz.prog W 0 (fun _ => true) true Tryz.f3.params.toList args.toList ds p := hA0
 rw [Tryz.params3] at hA hval
 obtain ⟨v0, vs0, d0, ds0, p0, q0, hargs, rfl, rfl, h0, r0⟩ := trodAll_cons hA
 obtain ⟨v1, vs1, d1, ds1, p1, q1, rfl, rfl, rfl, h1, r1⟩ := trodAll_cons r0
 obtain ⟨v2, vs2, d2, ds2, p2, q2, rfl, rfl, rfl, h2, r2⟩ := trodAll_cons r1
 obtain ⟨v3, vs3, d3, ds3, p3, q3, rfl, rfl, rfl, h3, r3⟩ := trodAll_cons r2
 obtain ⟨v4, vs4, d4, ds4, p4, q4, rfl, rfl, rfl, h4, r4⟩ := trodAll_cons r3
 obtain ⟨rfl, rfl, rfl⟩ := trodAll_nil r4
 obtain rfl : args = #[v0, v1, v2, v3, v4] := by cases args; simp_all
 obtain ⟨rfl, rfl⟩ := trodVars_none hV
 have lt0 : ∀ x ∈ p0, x.block < W.heap.size := by obtain ⟨m, hm⟩ := h0; exact DataW.trod_lt m _ _ _ hm
 have lt1 : ∀ x ∈ p1, x.block < W.heap.size := by obtain ⟨m, hm⟩ := h1; exact DataW.trod_lt m _ _ _ hm
 have lt2 : ∀ x ∈ p2, x.block < W.heap.size := by obtain ⟨m, hm⟩ := h2; exact DataW.trod_lt m _ _ _ hm
 have lt3 : ∀ x ∈ p3, x.block < W.heap.size := by obtain ⟨m, hm⟩ := h3; exact DataW.trod_lt m _ _ _ hm
 have lt4 : ∀ x ∈ p4, x.block < W.heap.size := by obtain ⟨m, hm⟩ := h4; exact DataW.trod_lt m _ _ _ hm
 have hlaw : Ans Tryz.prog (fv 3) [v0, v1, v2, v3, v4] [heapPH W] (fun v => v = .bool true) := by
  obtain ⟨pq, pc, pb, ph, kq, kc, kb, kh, qs, cs, bs, hs, rfl, hT⟩ := tables_of (hval 0 _ v0 rfl rfl) (RdT.of h0)
  obtain ⟨d, rfl, id0, id1, id2, id3, id4⟩ := demand_of (hval 1 _ v1 rfl rfl) (RdT.of h1)
  obtain ⟨l, hl, _, ll⟩ := ships_of (hval 2 _ v2 rfl rfl) (RdT.of h2)
  obtain ⟨q, kl, rfl, _⟩ := hl.val encX_len
  obtain ⟨px, kx, x, rfl, hx, lx⟩ := cutV_of (hval 3 _ v3 rfl rfl) (RdT.of h3)
  obtain ⟨acc, vol, q2, kl2, l2, p2, kk2, c2, rfl, hl2, ll2, hc2, lc2⟩ := answer_of (hval 4 _ v4 rfl rfl) (RdT.of h4)
  exact (weak_law hT _ _ _ _ _ _ d q kl l hl px kx x hx lx acc vol q2 kl2 l2 hl2 ll2 p2 kk2 c2 hc2 lc2).rsub (fun _ h => by simpa using h)
 refine (law_calls Tryz.func3 rfl rfl hlaw).mono fun e W' ⟨he, bel⟩ => ?_
 subst he
 exact ⟨_, rfl, _, _, _, [], _, [], hW', trodAll_mk1 (shut_bool Tryz.underlying4 _), (trodAll_cons_mk (Below.trod Tryz.laidOut (by kernel_rfl) (of_decide_eq_true (by kernel_rfl)) h0 bel lt0) (trodAll_cons_mk (Below.trod Tryz.laidOut (by kernel_rfl) (of_decide_eq_true (by kernel_rfl)) h1 bel lt1) (trodAll_cons_mk (Below.trod Tryz.laidOut (by kernel_rfl) (of_decide_eq_true (by kernel_rfl)) h2 bel lt2) (trodAll_cons_mk (Below.trod Tryz.laidOut (by kernel_rfl) (of_decide_eq_true (by kernel_rfl)) h3 bel lt3) (trodAll_cons_mk (Below.trod Tryz.laidOut (by kernel_rfl) (of_decide_eq_true (by kernel_rfl)) h4 bel lt4) trodAll_mk0))))), rfl, bel.frame _, fun h => by cases h⟩
theorem certificateWeak_holds : Rows.CertificateWeakSaid :=
 OpenClaim.holds_of_wide 3 Tryz.f3 rfl rfl rfl rfl rfl rfl rfl ⟨rfl, rfl, rfl, rfl, rfl⟩ rfl rfl rfl rfl rfl (by kernel_rfl) Tryz.func3 (by kernel_rfl)
  (of_decide_eq_true (by kernel_rfl)) (by unfold Func.isWrapper; first | (rw [if_pos (by decide +kernel)]; kernel_rfl) | (rw [if_neg (by decide +kernel)]; exact ⟨rfl, rfl⟩))
  (fun os started H enc _ => certificateWeak_lifted os started H enc)
end Go.Proofs.YtknfhiolenobaaaGreat
