/- Texts of this proof, one after the other; no conditions. -/
import Derived.Test.YtjbebmealbnmgaaGreatWB7
import Derived.Test.YtjbebmealbnmgaaGreatWB0
import Derived.Test.YtjbebmealbnmgaaGreatWB1
import Derived.Test.YtjbebmealbnmgaaGreatWB6
import Derived.Test.YtjbebmealbnmgaaGreatWB2
set_option linter.all false
/- Union and intersection of sets of integers. No program in sight. No conditions. -/
namespace Go.Step
abbrev Iv := List (Int × Int)
def NormI (l : Iv) : Prop := (∀ x ∈ l, x.1 < x.2) ∧ l.Pairwise (fun x y => x.2 < y.1)
def memI (l : Iv) (t : Int) : Bool := l.any (inSp t)
theorem inSp_iff {t : Int} {x : Int × Int} : inSp t x = true ↔ x.1 ≤ t ∧ t < x.2 := by simp [inSp]
theorem memI_iff {l : Iv} {t : Int} : memI l t = true ↔ ∃ x ∈ l, x.1 ≤ t ∧ t < x.2 := by simp [memI, inSp]
theorem memI_cons (x : Int × Int) (l : Iv) (t : Int) : memI (x :: l) t = (inSp t x || memI l t) := rfl
theorem NormI.nil : NormI [] := ⟨by simp, .nil⟩
theorem NormI.tail {x : Int × Int} {l : Iv} (h : NormI (x :: l)) : NormI l := ⟨fun y hy => h.1 y (by simp [hy]), (List.pairwise_cons.1 h.2).2⟩
theorem NormI.hd {x : Int × Int} {l : Iv} (h : NormI (x :: l)) : x.1 < x.2 ∧ ∀ y ∈ l, x.2 < y.1 := ⟨h.1 x (by simp), (List.pairwise_cons.1 h.2).1⟩
theorem NormI.cons {x : Int × Int} {l : Iv} (h : NormI l) (h1 : x.1 < x.2) (h2 : ∀ y ∈ l, x.2 < y.1) : NormI (x :: l) :=
  ⟨fun y hy => by
    rcases List.mem_cons.1 hy with rfl | hy
    · exact h1
    · exact h.1 y hy, List.pairwise_cons.2 ⟨h2, h.2⟩⟩
theorem memI_lo {x : Int × Int} {l : Iv} {t : Int} (h : NormI (x :: l)) (hm : memI (x :: l) t = true) : x.1 ≤ t := by
  obtain ⟨y, hy, h1, h2⟩ := memI_iff.1 hm
  rcases List.mem_cons.1 hy with rfl | hy
  · exact h1
  · have a := h.hd.1
    have b := h.hd.2 y hy
    omega
theorem memI_lo2 {x : Int × Int} {l : Iv} {t : Int} (h : NormI (x :: l)) (hm : memI l t = true) : x.2 < t := by
  obtain ⟨y, hy, h1, h2⟩ := memI_iff.1 hm
  have b := h.hd.2 y hy
  omega
theorem memI_first {x : Int × Int} {l : Iv} (h : x.1 < x.2) : memI (x :: l) x.1 = true := memI_iff.2 ⟨x, by simp, by omega, h⟩
theorem normI_ext : ∀ {a b : Iv}, NormI a → NormI b → (∀ t, memI a t = memI b t) → a = b
  | [], [], _, _, _ => rfl
  | [], y :: b, _, hb, h => by
    have := h y.1
    rw [memI_first hb.hd.1] at this
    exact absurd this (by simp [memI])
  | x :: a, [], ha, _, h => by
    have := h x.1
    rw [memI_first ha.hd.1] at this
    exact absurd this (by simp [memI])
  | x :: a, y :: b, ha, hb, h => by
    have e1 : x.1 = y.1 := by
      have h1 := memI_lo hb (t := x.1) (by rw [← h]; exact memI_first ha.hd.1)
      have h2 := memI_lo ha (t := y.1) (by rw [h]; exact memI_first hb.hd.1)
      omega
    have hx := ha.hd.1
    have hy := hb.hd.1
    have e2 : x.2 = y.2 := by
      apply Int.le_antisymm
      · apply Int.not_lt.1
        intro hlt
        have h1 := h y.2
        rw [memI_cons, memI_cons, (inSp_iff (t := y.2) (x := x)).2 ⟨by omega, hlt⟩, Bool.true_or] at h1
        rcases (Bool.or_eq_true _ _).mp h1.symm with h2 | h2
        · have := (inSp_iff.1 h2).2; omega
        · have := memI_lo2 hb h2; omega
      · apply Int.not_lt.1
        intro hlt
        have h1 := h x.2
        rw [memI_cons, memI_cons, (inSp_iff (t := x.2) (x := y)).2 ⟨by omega, hlt⟩, Bool.true_or] at h1
        rcases (Bool.or_eq_true _ _).mp h1 with h2 | h2
        · have := (inSp_iff.1 h2).2; omega
        · have := memI_lo2 ha h2; omega
    have exy : x = y := Prod.ext e1 e2
    subst exy
    congr 1
    refine normI_ext ha.tail hb.tail (fun t => ?_)
    by_cases ht : x.2 < t
    · have h1 := h t
      have h2 : inSp t x = false := by
        cases e : inSp t x with
        | false => rfl
        | true => have := (inSp_iff.1 e).2; omega
      rw [memI_cons, memI_cons, h2, Bool.false_or, Bool.false_or] at h1
      exact h1
    · have h1 : memI a t = false := by
        cases e : memI a t with
        | false => rfl
        | true => exact absurd (memI_lo2 ha e) ht
      have h2 : memI b t = false := by
        cases e : memI b t with
        | false => rfl
        | true => exact absurd (memI_lo2 hb e) ht
      rw [h1, h2]
/-! sets that are checked -/
theorem chkI_norm {l : Iv} (h : chkI l = 0) : l.length ≤ 1000 ∧ NormI l ∧ ∀ x ∈ l, okSp x := by
  have h1 : l.length ≤ 1000 := by
    unfold chkI at h
    split at h
    · simp at h
    · omega
  refine ⟨h1, ⟨fun x hx => ?_, List.pairwise_iff_getElem.2 (fun i j hi hj hij => ?_)⟩, fun x hx => ?_⟩
  · obtain ⟨i, hi, rfl⟩ := List.getElem_of_mem hx
    exact (chkI_at h hi).1
  · have a := chkI_hi h (j - 1 - i) (i := i) (by omega)
    have b := (chkI_at h hj).2 (by omega)
    have e : i + (j - 1 - i) = j - 1 := by omega
    simp only [e] at a
    omega
  · obtain ⟨i, hi, rfl⟩ := List.getElem_of_mem hx
    unfold chkI at h
    rw [if_neg (by omega)] at h
    have h2 := firstE_zero h i hi
    rw [spE_at (List.getElem?_eq_getElem hi)] at h2
    split at h2
    · simp at h2
    · rename_i h3; exact Decidable.not_not.1 h3
/-! one more span -/
def absI : Iv → Int × Int → Iv
  | [], x => [x]
  | y :: l, x => if y.1 ≤ x.2 then absI l (min x.1 y.1, max x.2 y.2) else x :: y :: l
def insI : Iv → Int × Int → Iv
  | [], x => [x]
  | y :: l, x => if y.2 < x.1 then y :: insI l x else absI (y :: l) x
theorem absI_ok : ∀ {l : Iv} {x : Int × Int} {lo : Int}, NormI l → x.1 < x.2 → (∀ y ∈ l, x.1 ≤ y.2) → lo < x.1 → (∀ y ∈ l, lo < y.1) → NormI (absI l x) ∧ (∀ t, memI (absI l x) t = (memI l t || inSp t x)) ∧ (∀ z ∈ absI l x, lo < z.1) ∧ (absI l x).length ≤ l.length + 1
  | [], x, lo, _, h, _, hlo, _ => ⟨NormI.nil.cons h (by simp), fun t => by simp [absI, memI], by simpa [absI] using hlo, by simp [absI]⟩
  | y :: l, x, lo, hn, h, hy, hlo, hl => by
    unfold absI
    have hy1 := hn.hd.1
    have hy2 := hy y (by simp)
    have hl1 := hl y (by simp)
    split
    · rename_i hc
      obtain ⟨a, b, c, d⟩ := absI_ok (l := l) (x := (min x.1 y.1, max x.2 y.2)) (lo := lo) hn.tail (by dsimp only; omega) (fun z hz => by have := hn.hd.2 z hz; have := hn.1 z (by simp [hz]); dsimp only; omega) (by dsimp only; omega) (fun z hz => hl z (by simp [hz]))
      refine ⟨a, fun t => ?_, c, by simp only [List.length_cons]; omega⟩
      rw [b, memI_cons]
      have e : inSp t (min x.1 y.1, max x.2 y.2) = (inSp t x || inSp t y) := by
        rw [Bool.eq_iff_iff, Bool.or_eq_true, inSp_iff, inSp_iff, inSp_iff]
        dsimp only
        omega
      rw [e]
      cases inSp t x <;> cases inSp t y <;> cases memI l t <;> rfl
    · rename_i hc
      refine ⟨hn.cons h (fun z hz => ?_), fun t => ?_, fun z hz => ?_, by simp⟩
      · rcases List.mem_cons.1 hz with rfl | hz
        · omega
        · have := hn.hd.2 z hz; omega
      · rw [memI_cons, Bool.or_comm]
      · rcases List.mem_cons.1 hz with rfl | hz
        · exact hlo
        · exact hl z hz
theorem insI_ok : ∀ {l : Iv} {x : Int × Int} {lo : Int}, NormI l → x.1 < x.2 → lo < x.1 → (∀ y ∈ l, lo < y.1) → NormI (insI l x) ∧ (∀ t, memI (insI l x) t = (memI l t || inSp t x)) ∧ (∀ z ∈ insI l x, lo < z.1) ∧ (insI l x).length ≤ l.length + 1
  | [], x, lo, _, h, hlo, _ => ⟨NormI.nil.cons h (by simp), fun t => by simp [insI, memI], by simpa [insI] using hlo, by simp [insI]⟩
  | y :: l, x, lo, hn, h, hlo, hl => by
    unfold insI
    have hy1 := hn.hd.1
    have hl1 := hl y (by simp)
    split
    · rename_i hc
      obtain ⟨a, b, c, d⟩ := insI_ok (l := l) (x := x) (lo := y.2) hn.tail h hc hn.hd.2
      refine ⟨a.cons hy1 c, fun t => ?_, fun z hz => ?_, by simp only [List.length_cons]; omega⟩
      · rw [memI_cons, b, memI_cons, Bool.or_assoc]
      · rcases List.mem_cons.1 hz with rfl | hz
        · exact hl1
        · have := c z hz; omega
    · rename_i hc
      refine absI_ok hn h (fun z hz => ?_) hlo hl
      rcases List.mem_cons.1 hz with rfl | hz
      · omega
      · have := hn.hd.2 z hz
        have := hn.1 z (by simp [hz])
        omega
theorem lo_ex (l : Iv) (x : Int) : ∃ lo, lo < x ∧ ∀ y ∈ l, lo < y.1 := by
  induction l with
  | nil => exact ⟨x - 1, by omega, by simp⟩
  | cons y l ih =>
    obtain ⟨lo, h1, h2⟩ := ih
    refine ⟨min lo (y.1 - 1), by omega, fun z hz => ?_⟩
    rcases List.mem_cons.1 hz with rfl | hz
    · omega
    · have := h2 z hz; omega
theorem insI_norm {l : Iv} {x : Int × Int} (h : NormI l) (hx : x.1 < x.2) : NormI (insI l x) ∧ (∀ t, memI (insI l x) t = (memI l t || inSp t x)) ∧ (insI l x).length ≤ l.length + 1 := by
  obtain ⟨lo, h1, h2⟩ := lo_ex l x.1
  obtain ⟨a, b, _, d⟩ := insI_ok h hx h1 h2
  exact ⟨a, b, d⟩
def insAll (a : Iv) (b : Iv) : Iv := b.foldl insI a
theorem insAll_ok : ∀ {b a : Iv}, NormI a → (∀ x ∈ b, x.1 < x.2) → NormI (insAll a b) ∧ (∀ t, memI (insAll a b) t = (memI a t || memI b t)) ∧ (insAll a b).length ≤ a.length + b.length
  | [], a, h, _ => ⟨h, fun t => by simp [insAll, memI], by simp [insAll]⟩
  | x :: b, a, h, hb => by
    obtain ⟨a1, a2, a3⟩ := insI_norm h (hb x (by simp))
    obtain ⟨b1, b2, b3⟩ := insAll_ok (b := b) a1 (fun y hy => hb y (by simp [hy]))
    refine ⟨b1, fun t => ?_, ?_⟩
    · show memI (insAll (insI a x) b) t = _
      rw [b2, a2, memI_cons, Bool.or_assoc]
    · show (insAll (insI a x) b).length ≤ _
      simp only [List.length_cons]
      omega
theorem insI_take {l : Iv} {x : Int × Int} : ∀ {i : Nat}, i ≤ l.length → (∀ y ∈ l.take i, y.2 < x.1) → insI l x = l.take i ++ insI (l.drop i) x := by
  induction l with
  | nil => intro i hi _; obtain rfl : i = 0 := (by simpa using hi); rfl
  | cons y l ih =>
    intro i hi h
    cases i with
    | zero => rfl
    | succ i =>
      rw [List.take_succ_cons, List.drop_succ_cons, List.cons_append]
      show (if y.2 < x.1 then y :: insI l x else absI (y :: l) x) = _
      rw [if_pos (h y (by simp)), ih (by simpa using hi) (fun z hz => h z (by simp [hz]))]
/-! intersection, span by span -/
def cutI (x y : Int × Int) : Option (Int × Int) := if max x.1 y.1 < min x.2 y.2 then some (max x.1 y.1, min x.2 y.2) else none
def bothI (a b : Iv) : Iv := a.flatMap (fun x => b.filterMap (cutI x))
theorem cutI_some {x y z : Int × Int} (h : cutI x y = some z) : z.1 < z.2 ∧ x.1 ≤ z.1 ∧ y.1 ≤ z.1 ∧ z.2 ≤ x.2 ∧ z.2 ≤ y.2 := by
  unfold cutI at h
  split at h
  · simp only [Option.some.injEq] at h
    subst h
    dsimp only
    omega
  · simp at h
theorem bothI_norm {a b : Iv} (ha : NormI a) (hb : NormI b) : NormI (bothI a b) ∧ ∀ t, memI (bothI a b) t = (memI a t && memI b t) := by
  refine ⟨⟨fun z hz => ?_, ?_⟩, fun t => ?_⟩
  · simp only [bothI, List.mem_flatMap, List.mem_filterMap] at hz
    obtain ⟨x, _, y, _, h⟩ := hz
    exact (cutI_some h).1
  · unfold bothI
    rw [List.pairwise_flatMap]
    refine ⟨fun x hx => ?_, ha.2.imp (fun {x x'} hxx => ?_)⟩
    · rw [List.pairwise_filterMap]
      refine hb.2.imp (fun {y y'} hyy => ?_)
      intro z hz z' hz'
      have h1 := cutI_some hz
      have h2 := cutI_some hz'
      omega
    · intro z hz z' hz'
      obtain ⟨y, _, hz⟩ := List.mem_filterMap.1 hz
      obtain ⟨y', _, hz'⟩ := List.mem_filterMap.1 hz'
      have h1 := cutI_some hz
      have h2 := cutI_some hz'
      omega
  · rw [Bool.eq_iff_iff, Bool.and_eq_true, memI_iff, memI_iff, memI_iff]
    constructor
    · rintro ⟨z, hz, h1, h2⟩
      simp only [bothI, List.mem_flatMap, List.mem_filterMap] at hz
      obtain ⟨x, hx, y, hy, h⟩ := hz
      have := cutI_some h
      exact ⟨⟨x, hx, by omega, by omega⟩, y, hy, by omega, by omega⟩
    · rintro ⟨⟨x, hx, h1, h2⟩, y, hy, h3, h4⟩
      refine ⟨(max x.1 y.1, min x.2 y.2), ?_, by dsimp only; omega, by dsimp only; omega⟩
      simp only [bothI, List.mem_flatMap, List.mem_filterMap]
      exact ⟨x, hx, y, hy, by unfold cutI; rw [if_pos (by omega)]⟩
/-! ends of spans -/
def tog (l : Iv) : List Int := l.flatMap (fun x => [x.1, x.2])
theorem tog_len : ∀ l : Iv, (tog l).length = 2 * l.length
  | [] => rfl
  | x :: l => by
    have := tog_len l
    show (x.1 :: x.2 :: tog l).length = _
    simp only [List.length_cons]
    omega
theorem tog_get : ∀ (l : Iv) (i : Nat) (x : Int × Int), l[i]? = some x → (tog l)[2 * i]? = some x.1 ∧ (tog l)[2 * i + 1]? = some x.2
  | [], i, x, h => by simp at h
  | y :: l, 0, x, h => by
    simp only [List.getElem?_cons_zero, Option.some.injEq] at h
    subst h
    exact ⟨rfl, rfl⟩
  | y :: l, i + 1, x, h => by
    have := tog_get l i x (by simpa using h)
    show (y.1 :: y.2 :: tog l)[2 * (i + 1)]? = _ ∧ (y.1 :: y.2 :: tog l)[2 * (i + 1) + 1]? = _
    rw [show 2 * (i + 1) = 2 * i + 1 + 1 by omega]
    exact this
def parT : List Int → Int → Bool
  | [], _ => false
  | e :: E, t => if e ≤ t then !(parT E t) else parT E t
theorem parT_tog : ∀ {l : Iv}, NormI l → ∀ t, parT (tog l) t = memI l t
  | [], _, t => rfl
  | x :: l, h, t => by
    have ih := parT_tog h.tail t
    have hx := h.hd.1
    show (if x.1 ≤ t then !(if x.2 ≤ t then !(parT (tog l) t) else parT (tog l) t) else (if x.2 ≤ t then !(parT (tog l) t) else parT (tog l) t)) = (inSp t x || memI l t)
    rw [ih]
    have h1 : t ≤ x.2 → memI l t = false := fun hle => by
      cases e : memI l t with
      | false => rfl
      | true => have := memI_lo2 h e; omega
    have h2 : inSp t x = decide (x.1 ≤ t ∧ t < x.2) := by rw [Bool.eq_iff_iff, inSp_iff, decide_eq_true_eq]
    rw [h2]
    by_cases c1 : x.1 ≤ t
    · by_cases c2 : x.2 ≤ t
      · rw [if_pos c1, if_pos c2, decide_eq_false (by omega), Bool.not_not, Bool.false_or]
      · rw [if_pos c1, if_neg c2, decide_eq_true (by omega), h1 (by omega)]; rfl
    · rw [if_neg c1, if_neg (by omega), decide_eq_false (by omega), Bool.false_or]
def oddB (n : Nat) : Bool := decide (n % 2 = 1)
theorem oddB_succ (n : Nat) : oddB (n + 1) = !(oddB n) := by
  unfold oddB
  by_cases h : n % 2 = 1
  · rw [decide_eq_true h, decide_eq_false (by omega)]; rfl
  · rw [decide_eq_false h, decide_eq_true (by omega)]; rfl
theorem parT_snoc (t x : Int) : ∀ O : List Int, parT (O ++ [t]) x = if t ≤ x then !(parT O x) else parT O x
  | [] => by simp [parT]
  | o :: O => by
    have ih := parT_snoc t x O
    show (if o ≤ x then !(parT (O ++ [t]) x) else parT (O ++ [t]) x) = if t ≤ x then !(if o ≤ x then !(parT O x) else parT O x) else (if o ≤ x then !(parT O x) else parT O x)
    rw [ih]
    split <;> split <;> rfl
theorem parT_all {x : Int} : ∀ {O : List Int}, (∀ o ∈ O, o ≤ x) → parT O x = oddB O.length
  | [], _ => rfl
  | o :: O, h => by
    show (if o ≤ x then !(parT O x) else parT O x) = oddB (O.length + 1)
    rw [if_pos (h o (by simp)), parT_all (fun p hp => h p (by simp [hp])), oddB_succ]
theorem parT_none {x : Int} : ∀ {O : List Int}, (∀ o ∈ O, x < o) → parT O x = false
  | [], _ => rfl
  | o :: O, h => by
    show (if o ≤ x then !(parT O x) else parT O x) = false
    have := h o (by simp)
    rw [if_neg (by omega), parT_none (fun p hp => h p (by simp [hp]))]
/-- the ends of two sets in their order, with the sides from there on -/
def mrg : List Int → Bool → List Int → Bool → List (Int × Bool × Bool)
  | [], _, [], _ => []
  | a :: A, p, [], q => (a, !p, q) :: mrg A (!p) [] q
  | [], p, b :: B, q => (b, p, !q) :: mrg [] p B (!q)
  | a :: A, p, b :: B, q => if a < b then (a, !p, q) :: mrg A (!p) (b :: B) q else if b < a then (b, p, !q) :: mrg (a :: A) p B (!q) else (a, !p, !q) :: mrg A (!p) B (!q)
termination_by A _ B _ => A.length + B.length
def mcomb1 (f : Bool → Bool → Bool) (O : List Int) (e : Int × Bool × Bool) : List Int := if f e.2.1 e.2.2 = oddB O.length then O else O ++ [e.1]
def mcomb (f : Bool → Bool → Bool) (S : List (Int × Bool × Bool)) (O : List Int) : List Int := S.foldl (mcomb1 f) O
theorem comb1_odd (f : Bool → Bool → Bool) (O : List Int) (e : Int × Bool × Bool) : oddB (mcomb1 f O e).length = f e.2.1 e.2.2 := by
  unfold mcomb1
  split
  · rename_i h; exact h.symm
  · rename_i h
    rw [List.length_append, List.length_singleton, oddB_succ]
    cases h1 : oddB O.length <;> cases h2 : f e.2.1 e.2.2 <;> simp_all
structure Cm (f : Bool → Bool → Bool) (A : List Int) (p : Bool) (B : List Int) (q : Bool) (O O' : List Int) : Prop where
  asc : O'.Pairwise (· < ·)
  hi : ∀ x, (∀ o ∈ O, o ≤ x) → parT O' x = f (p ^^ parT A x) (q ^^ parT B x)
  lo : ∀ x, (∀ a ∈ A, x < a) → (∀ b ∈ B, x < b) → parT O' x = parT O x
  len : O'.length ≤ O.length + A.length + B.length
theorem Cm.step {f : Bool → Bool → Bool} {A A1 : List Int} {p p1 : Bool} {B B1 : List Int} {q q1 : Bool} {O O' : List Int} {t : Int}
    (h : Cm f A1 p1 B1 q1 (mcomb1 f O (t, p1, q1)) O') (ho : oddB O.length = f p q) (hA : ∀ a ∈ A, t ≤ a) (hB : ∀ b ∈ B, t ≤ b) (hOt : ∀ o ∈ O, o < t)
    (eA : ∀ x, t ≤ x → (p1 ^^ parT A1 x) = (p ^^ parT A x)) (eB : ∀ x, t ≤ x → (q1 ^^ parT B1 x) = (q ^^ parT B x)) (sA : ∀ a ∈ A1, t < a) (sB : ∀ b ∈ B1, t < b) (hl : A1.length + B1.length + 1 ≤ A.length + B.length) (hin : t ∈ A ∨ t ∈ B) : Cm f A p B q O O' := by
  have hmem : ∀ o ∈ mcomb1 f O (t, p1, q1), o ≤ t := fun o ho => by
    unfold mcomb1 at ho
    split at ho
    · have := hOt o ho; omega
    · rcases List.mem_append.1 ho with h | h
      · have := hOt o h; omega
      · have := List.mem_singleton.1 h; omega
  have hpre : ∀ x, x < t → parT (mcomb1 f O (t, p1, q1)) x = parT O x := fun x hx => by
    unfold mcomb1
    split
    · rfl
    · rw [parT_snoc, if_neg (by dsimp only; omega)]
  have hcl : (mcomb1 f O (t, p1, q1)).length ≤ O.length + 1 := by
    unfold mcomb1
    split
    · omega
    · simp
  refine ⟨h.asc, fun x hx => ?_, fun x hx hy => ?_, by have := h.len; omega⟩
  · by_cases ht : t ≤ x
    · rw [h.hi x (fun o ho => Int.le_trans (hmem o ho) ht), eA x ht, eB x ht]
    · rw [h.lo x (fun a ha => by have := sA a ha; omega) (fun b hb => by have := sB b hb; omega), hpre x (by omega), parT_all hx, parT_none (fun a ha => by have := hA a ha; omega), parT_none (fun b hb => by have := hB b hb; omega), Bool.xor_false, Bool.xor_false, ho]
  · have ht : x < t := by
      rcases hin with h | h
      · exact hx t h
      · exact hy t h
    rw [h.lo x (fun a ha => by have := sA a ha; omega) (fun b hb => by have := sB b hb; omega), hpre x ht]
theorem comb1_asc {f : Bool → Bool → Bool} {O : List Int} {e : Int × Bool × Bool} (h : O.Pairwise (· < ·)) (ho : ∀ o ∈ O, o < e.1) : (mcomb1 f O e).Pairwise (· < ·) := by
  unfold mcomb1
  split
  · exact h
  · rw [List.pairwise_append]
    exact ⟨h, List.pairwise_singleton _ _, fun a ha b hb => by rw [List.mem_singleton.1 hb]; exact ho a ha⟩
theorem comb1_lt {f : Bool → Bool → Bool} {O : List Int} {e : Int × Bool × Bool} {S : List Int} (ho : ∀ o ∈ O, ∀ a ∈ S, o < a) (he : ∀ a ∈ S, e.1 < a) : ∀ o ∈ mcomb1 f O e, ∀ a ∈ S, o < a := fun o h a ha => by
  unfold mcomb1 at h
  split at h
  · exact ho o h a ha
  · rcases List.mem_append.1 h with h | h
    · exact ho o h a ha
    · rw [List.mem_singleton.1 h]; exact he a ha
theorem comb_ok (f : Bool → Bool → Bool) : ∀ (n : Nat) (A : List Int) (p : Bool) (B : List Int) (q : Bool) (O : List Int), A.length + B.length ≤ n → A.Pairwise (· < ·) → B.Pairwise (· < ·) → O.Pairwise (· < ·) → (∀ o ∈ O, ∀ a ∈ A, o < a) → (∀ o ∈ O, ∀ b ∈ B, o < b) → oddB O.length = f p q → Cm f A p B q O (mcomb f (mrg A p B q) O) := by
  have flip : ∀ (p z : Bool), (!p ^^ z) = (p ^^ !z) := by decide
  intro n
  induction n with
  | zero =>
    intro A p B q O hn _ _ hO _ _ ho
    obtain rfl : A = [] := List.eq_nil_of_length_eq_zero (by omega)
    obtain rfl : B = [] := List.eq_nil_of_length_eq_zero (by omega)
    unfold mrg
    exact ⟨hO, fun x hx => by rw [show mcomb f [] O = O from rfl, parT_all hx, ho]; simp [parT], fun _ _ _ => rfl, by show O.length ≤ _; omega⟩
  | succ n ih =>
    intro A p B q O hn hA hB hO hOA hOB ho
    match A, B, hn, hA, hB, hOA, hOB with
    | [], [], _, _, _, _, _ =>
      unfold mrg
      exact ⟨hO, fun x hx => by rw [show mcomb f [] O = O from rfl, parT_all hx, ho]; simp [parT], fun _ _ _ => rfl, by show O.length ≤ _; omega⟩
    | a :: A, [], hn, hA, hB, hOA, hOB =>
      unfold mrg
      obtain ⟨a1, a2⟩ := List.pairwise_cons.1 hA
      refine Cm.step (t := a) (ih A (!p) [] q (mcomb1 f O (a, !p, q)) (by simp at hn ⊢; omega) a2 hB (comb1_asc hO (fun o h => hOA o h a (by simp))) (comb1_lt (fun o h x hx => hOA o h x (by simp [hx])) a1) (fun _ _ _ h => by simp at h) (comb1_odd f O _)) ho (fun x hx => ?_) (fun _ h => by simp at h) (fun o h => hOA o h a (by simp)) (fun x hx => ?_) (fun _ _ => rfl) a1 (fun _ h => by simp at h) (by simp) (.inl (by simp))
      · rcases List.mem_cons.1 hx with rfl | hx
        · exact Int.le_refl _
        · exact Int.le_of_lt (a1 x hx)
      · show (!p ^^ parT A x) = (p ^^ if a ≤ x then !(parT A x) else parT A x)
        rw [if_pos hx, flip]
    | [], b :: B, hn, hA, hB, hOA, hOB =>
      unfold mrg
      obtain ⟨b1, b2⟩ := List.pairwise_cons.1 hB
      refine Cm.step (t := b) (ih [] p B (!q) (mcomb1 f O (b, p, !q)) (by simp at hn ⊢; omega) hA b2 (comb1_asc hO (fun o h => hOB o h b (by simp))) (fun _ _ _ h => by simp at h) (comb1_lt (fun o h x hx => hOB o h x (by simp [hx])) b1) (comb1_odd f O _)) ho (fun _ h => by simp at h) (fun x hx => ?_) (fun o h => hOB o h b (by simp)) (fun _ _ => rfl) (fun x hx => ?_) (fun _ h => by simp at h) b1 (by simp) (.inr (by simp))
      · rcases List.mem_cons.1 hx with rfl | hx
        · exact Int.le_refl _
        · exact Int.le_of_lt (b1 x hx)
      · show (!q ^^ parT B x) = (q ^^ if b ≤ x then !(parT B x) else parT B x)
        rw [if_pos hx, flip]
    | a :: A, b :: B, hn, hA, hB, hOA, hOB =>
      obtain ⟨a1, a2⟩ := List.pairwise_cons.1 hA
      obtain ⟨b1, b2⟩ := List.pairwise_cons.1 hB
      have la : ∀ x ∈ a :: A, a ≤ x := fun x hx => by
        rcases List.mem_cons.1 hx with rfl | hx
        · exact Int.le_refl _
        · exact Int.le_of_lt (a1 x hx)
      have lb : ∀ x ∈ b :: B, b ≤ x := fun x hx => by
        rcases List.mem_cons.1 hx with rfl | hx
        · exact Int.le_refl _
        · exact Int.le_of_lt (b1 x hx)
      unfold mrg
      split
      · rename_i hc
        refine Cm.step (t := a) (ih A (!p) (b :: B) q (mcomb1 f O (a, !p, q)) (by simp at hn ⊢; omega) a2 hB (comb1_asc hO (fun o h => hOA o h a (by simp))) (comb1_lt (fun o h x hx => hOA o h x (by simp [hx])) a1) (comb1_lt hOB (fun x hx => by have := lb x hx; dsimp only; omega)) (comb1_odd f O _)) ho la (fun x hx => by have := lb x hx; omega) (fun o h => hOA o h a (by simp)) (fun x hx => ?_) (fun _ _ => rfl) a1 (fun x hx => by have := lb x hx; omega) (by simp only [List.length_cons]; omega) (.inl (by simp))
        show (!p ^^ parT A x) = (p ^^ if a ≤ x then !(parT A x) else parT A x)
        rw [if_pos hx, flip]
      · rename_i hc
        split
        · rename_i hc2
          refine Cm.step (t := b) (ih (a :: A) p B (!q) (mcomb1 f O (b, p, !q)) (by simp at hn ⊢; omega) hA b2 (comb1_asc hO (fun o h => hOB o h b (by simp))) (comb1_lt hOA (fun x hx => by have := la x hx; dsimp only; omega)) (comb1_lt (fun o h x hx => hOB o h x (by simp [hx])) b1) (comb1_odd f O _)) ho (fun x hx => by have := la x hx; omega) lb (fun o h => hOB o h b (by simp)) (fun _ _ => rfl) (fun x hx => ?_) (fun x hx => by have := la x hx; omega) b1 (by simp only [List.length_cons]; omega) (.inr (by simp))
          show (!q ^^ parT B x) = (q ^^ if b ≤ x then !(parT B x) else parT B x)
          rw [if_pos hx, flip]
        · rename_i hc2
          have hab : a = b := by omega
          subst hab
          refine Cm.step (t := a) (ih A (!p) B (!q) (mcomb1 f O (a, !p, !q)) (by simp at hn ⊢; omega) a2 b2 (comb1_asc hO (fun o h => hOA o h a (by simp))) (comb1_lt (fun o h x hx => hOA o h x (by simp [hx])) a1) (comb1_lt (fun o h x hx => hOB o h x (by simp [hx])) b1) (comb1_odd f O _)) ho la lb (fun o h => hOA o h a (by simp)) (fun x hx => ?_) (fun x hx => ?_) a1 b1 (by simp only [List.length_cons]; omega) (.inl (by simp))
          · show (!p ^^ parT A x) = (p ^^ if a ≤ x then !(parT A x) else parT A x)
            rw [if_pos hx, flip]
          · show (!q ^^ parT B x) = (q ^^ if a ≤ x then !(parT B x) else parT B x)
            rw [if_pos hx, flip]
theorem tog_asc : ∀ {l : Iv}, NormI l → (tog l).Pairwise (· < ·) ∧ ∀ lo, (∀ x ∈ l, lo < x.1) → ∀ e ∈ tog l, lo < e
  | [], _ => ⟨.nil, fun _ _ _ h => by simp [tog] at h⟩
  | x :: l, h => by
    obtain ⟨h1, h2⟩ := tog_asc h.tail
    have e : tog (x :: l) = x.1 :: x.2 :: tog l := rfl
    have hx := h.hd.1
    have h3 := h2 x.2 h.hd.2
    rw [e]
    refine ⟨List.pairwise_cons.2 ⟨fun a ha => ?_, List.pairwise_cons.2 ⟨h3, h1⟩⟩, fun lo hlo a ha => ?_⟩
    · rcases List.mem_cons.1 ha with rfl | ha
      · exact hx
      · have := h3 a ha; omega
    · have := hlo x (by simp)
      rcases List.mem_cons.1 ha with rfl | ha
      · exact this
      · rcases List.mem_cons.1 ha with rfl | ha
        · omega
        · have := h3 a ha; omega
/-- spans of their ends; the last may be open -/
def spans : List Int → Iv
  | [] => []
  | [a] => [(a, 0)]
  | a :: b :: E => (a, b) :: spans E
theorem spans_len : ∀ E : List Int, (spans E).length = (E.length + 1) / 2
  | [] => rfl
  | [_] => by simp [spans]
  | a :: b :: E => by
    have := spans_len E
    simp only [spans, List.length_cons]
    omega
theorem spans_even (t : Int) : ∀ {E : List Int}, oddB E.length = false → spans (E ++ [t]) = spans E ++ [(t, 0)]
  | [], _ => rfl
  | [_], h => by simp [oddB] at h
  | a :: b :: E, h => by
    have h' : oddB E.length = false := by
      simp only [List.length_cons, oddB_succ, Bool.not_not] at h
      exact h
    show (a, b) :: spans (E ++ [t]) = _
    rw [spans_even t h']
    rfl
theorem spans_odd (t : Int) : ∀ {E : List Int}, oddB E.length = true → ∃ l a, spans E = l ++ [(a, 0)] ∧ spans (E ++ [t]) = l ++ [(a, t)]
  | [], h => by simp [oddB] at h
  | [a], _ => ⟨[], a, rfl, rfl⟩
  | a :: b :: E, h => by
    have h' : oddB E.length = true := by
      simp only [List.length_cons, oddB_succ, Bool.not_not] at h
      exact h
    obtain ⟨l, c, h1, h2⟩ := spans_odd t h'
    refine ⟨(a, b) :: l, c, ?_, ?_⟩
    · show (a, b) :: spans E = _
      rw [h1]; rfl
    · show (a, b) :: spans (E ++ [t]) = _
      rw [h2]; rfl
theorem spans_norm : ∀ {E : List Int}, oddB E.length = false → E.Pairwise (· < ·) → NormI (spans E) ∧ tog (spans E) = E
  | [], _, _ => ⟨NormI.nil, rfl⟩
  | [_], h, _ => by simp [oddB] at h
  | a :: b :: E, h, hp => by
    have h' : oddB E.length = false := by
      simp only [List.length_cons, oddB_succ, Bool.not_not] at h
      exact h
    obtain ⟨p1, p2⟩ := List.pairwise_cons.1 hp
    obtain ⟨p3, p4⟩ := List.pairwise_cons.1 p2
    obtain ⟨h1, h2⟩ := spans_norm h' p4
    refine ⟨h1.cons (p1 b (by simp)) (fun y hy => ?_), ?_⟩
    · have : y.1 ∈ tog (spans E) := by
        unfold tog
        rw [List.mem_flatMap]
        exact ⟨y, hy, by simp⟩
      rw [h2] at this
      exact p3 _ this
    · show a :: b :: tog (spans E) = _
      rw [h2]
/-- the set of the integers for which a function of two booleans is true -/
def combI (f : Bool → Bool → Bool) (a b : Iv) : Iv := spans (mcomb f (mrg (tog a) false (tog b) false) [])
theorem combI_ok {f : Bool → Bool → Bool} (hf : f false false = false) {a b : Iv} (ha : NormI a) (hb : NormI b) : NormI (combI f a b) ∧ (∀ t, memI (combI f a b) t = f (memI a t) (memI b t)) ∧ (combI f a b).length ≤ a.length + b.length := by
  have h := comb_ok f _ (tog a) false (tog b) false [] (Nat.le_refl _) (tog_asc ha).1 (tog_asc hb).1 .nil (fun _ h => by simp at h) (fun _ h => by simp at h) hf.symm
  have hx : ∀ x, parT (mcomb f (mrg (tog a) false (tog b) false) []) x = f (memI a x) (memI b x) := fun x => by
    rw [h.hi x (fun _ h => by simp at h), parT_tog ha, parT_tog hb, Bool.false_xor, Bool.false_xor]
  have hlen := h.len
  rw [tog_len, tog_len] at hlen
  have hodd : oddB (mcomb f (mrg (tog a) false (tog b) false) []).length = false := by
    obtain ⟨B, hB⟩ : ∃ B : Int, (∀ e ∈ mcomb f (mrg (tog a) false (tog b) false) [], e ≤ B) ∧ (∀ x ∈ a, x.2 ≤ B) ∧ (∀ x ∈ b, x.2 ≤ B) := by
      have hi : ∀ E : List Int, ∃ B, ∀ e ∈ E, e ≤ B := fun E => by
        induction E with
        | nil => exact ⟨0, by simp⟩
        | cons e E ih =>
          obtain ⟨B, h⟩ := ih
          exact ⟨max B e, fun x hx => by rcases List.mem_cons.1 hx with rfl | hx; · omega
                                         · have := h x hx; omega⟩
      obtain ⟨B1, h1⟩ := hi (mcomb f (mrg (tog a) false (tog b) false) [])
      obtain ⟨B2, h2⟩ := hi (a.map Prod.snd)
      obtain ⟨B3, h3⟩ := hi (b.map Prod.snd)
      refine ⟨max B1 (max B2 B3), fun e he => ?_, fun x hx => ?_, fun x hx => ?_⟩
      · have := h1 e he; omega
      · have := h2 x.2 (List.mem_map.2 ⟨x, hx, rfl⟩); omega
      · have := h3 x.2 (List.mem_map.2 ⟨x, hx, rfl⟩); omega
    obtain ⟨h1, h2, h3⟩ := hB
    rw [← parT_all h1, hx]
    have n1 : memI a B = false := by
      cases e : memI a B with
      | false => rfl
      | true => obtain ⟨x, hx, _, h5⟩ := memI_iff.1 e; have := h2 x hx; omega
    have n2 : memI b B = false := by
      cases e : memI b B with
      | false => rfl
      | true => obtain ⟨x, hx, _, h5⟩ := memI_iff.1 e; have := h3 x hx; omega
    rw [n1, n2, hf]
  obtain ⟨h1, h2⟩ := spans_norm hodd h.asc
  refine ⟨h1, fun t => ?_, ?_⟩
  · show memI (spans (mcomb f (mrg (tog a) false (tog b) false) [])) t = _
    rw [← parT_tog h1, h2, hx]
  · unfold combI
    rw [spans_len]
    simp only [List.length_nil] at hlen
    omega
def unionI (a b : Iv) : Iv := combI (fun x y => x || y) a b
def interI (a b : Iv) : Iv := combI (fun x y => x && y) a b
theorem unionI_eq {a b : Iv} (ha : NormI a) (hb : NormI b) : insAll a b = unionI a b := by
  obtain ⟨h1, h2, _⟩ := insAll_ok (b := b) ha hb.1
  obtain ⟨h3, h4, _⟩ := combI_ok (f := fun x y => x || y) rfl ha hb
  exact normI_ext h1 h3 (fun t => by rw [h2]; exact (h4 t).symm)
theorem interI_eq {a b : Iv} (ha : NormI a) (hb : NormI b) : bothI a b = interI a b := by
  obtain ⟨h1, h2⟩ := bothI_norm ha hb
  obtain ⟨h3, h4, _⟩ := combI_ok (f := fun x y => x && y) rfl ha hb
  exact normI_ext h1 h3 (fun t => by rw [h2]; exact (h4 t).symm)
end Go.Step
/- The ends of two sets, one after the other. No program in sight. No conditions. -/
namespace Go.Step
theorem oddB_cases (p : Nat) : (oddB p = true ∧ p = 2 * (p / 2) + 1) ∨ (oddB p = false ∧ p = 2 * (p / 2)) := by
  unfold oddB
  by_cases h : p % 2 = 1
  · exact .inl ⟨decide_eq_true h, by omega⟩
  · exact .inr ⟨decide_eq_false h, by omega⟩
/-- the next end of two sets -/
def nxtT (A B : List Int) (p q : Nat) : Int := if p < A.length then (if q < B.length ∧ B.getD q 0 < A.getD p 0 then B.getD q 0 else A.getD p 0) else B.getD q 0
/-- the place behind an end, if it is the next one -/
def stp (A : List Int) (t : Int) (p : Nat) : Nat := if p < A.length ∧ A.getD p 0 = t then p + 1 else p
theorem stp_le {A : List Int} {t : Int} {p : Nat} (h : p ≤ A.length) : p ≤ stp A t p ∧ stp A t p ≤ A.length := by
  unfold stp
  split <;> omega
theorem drop_at {A : List Int} {p : Nat} (h : p < A.length) : A.drop p = A.getD p 0 :: A.drop (p + 1) := by
  rw [List.drop_eq_getElem_cons h, List.getD_eq_getElem?_getD, List.getElem?_eq_getElem h]; rfl
theorem mrg_cc (a : Int) (A : List Int) (p : Bool) (b : Int) (B : List Int) (q : Bool) : mrg (a :: A) p (b :: B) q = if a < b then (a, !p, q) :: mrg A (!p) (b :: B) q else if b < a then (b, p, !q) :: mrg (a :: A) p B (!q) else (a, !p, !q) :: mrg A (!p) B (!q) := by
  conv => lhs; unfold mrg
theorem mrg_cn (a : Int) (A : List Int) (p q : Bool) : mrg (a :: A) p [] q = (a, !p, q) :: mrg A (!p) [] q := by
  conv => lhs; unfold mrg
theorem mrg_nc (b : Int) (B : List Int) (p q : Bool) : mrg [] p (b :: B) q = (b, p, !q) :: mrg [] p B (!q) := by
  conv => lhs; unfold mrg
theorem mrg_at {A B : List Int} {p q : Nat} (hp : p ≤ A.length) (hq : q ≤ B.length) (h : p < A.length ∨ q < B.length) :
    mrg (A.drop p) (oddB p) (B.drop q) (oddB q) = (nxtT A B p q, oddB (stp A (nxtT A B p q) p), oddB (stp B (nxtT A B p q) q)) :: mrg (A.drop (stp A (nxtT A B p q) p)) (oddB (stp A (nxtT A B p q) p)) (B.drop (stp B (nxtT A B p q) q)) (oddB (stp B (nxtT A B p q) q)) := by
  by_cases h1 : p < A.length
  · by_cases h2 : q < B.length
    · rw [drop_at h1, drop_at h2, mrg_cc]
      by_cases c1 : A.getD p 0 < B.getD q 0
      · have e : nxtT A B p q = A.getD p 0 := by unfold nxtT; rw [if_pos h1, if_neg (by omega)]
        have e1 : stp A (A.getD p 0) p = p + 1 := by unfold stp; rw [if_pos ⟨h1, rfl⟩]
        have e2 : stp B (A.getD p 0) q = q := by unfold stp; rw [if_neg (by omega)]
        rw [if_pos c1, e, e1, e2, oddB_succ, drop_at h2]
      · by_cases c2 : B.getD q 0 < A.getD p 0
        · have e : nxtT A B p q = B.getD q 0 := by unfold nxtT; rw [if_pos h1, if_pos ⟨h2, c2⟩]
          have e1 : stp A (B.getD q 0) p = p := by unfold stp; rw [if_neg (by omega)]
          have e2 : stp B (B.getD q 0) q = q + 1 := by unfold stp; rw [if_pos ⟨h2, rfl⟩]
          rw [if_neg c1, if_pos c2, e, e1, e2, oddB_succ, drop_at h1]
        · have e : nxtT A B p q = A.getD p 0 := by unfold nxtT; rw [if_pos h1, if_neg (by omega)]
          have e1 : stp A (A.getD p 0) p = p + 1 := by unfold stp; rw [if_pos ⟨h1, rfl⟩]
          have e2 : stp B (A.getD p 0) q = q + 1 := by unfold stp; rw [if_pos ⟨h2, by omega⟩]
          rw [if_neg c1, if_neg c2, e, e1, e2, oddB_succ, oddB_succ]
    · have hq2 : q = B.length := by omega
      subst hq2
      have e : nxtT A B p B.length = A.getD p 0 := by unfold nxtT; rw [if_pos h1, if_neg (by omega)]
      have e1 : stp A (A.getD p 0) p = p + 1 := by unfold stp; rw [if_pos ⟨h1, rfl⟩]
      have e2 : stp B (A.getD p 0) B.length = B.length := by unfold stp; rw [if_neg (by omega)]
      rw [drop_at h1, List.drop_length, e, e1, e2, oddB_succ, List.drop_length, mrg_cn]
  · have hp2 : p = A.length := by omega
    subst hp2
    have h2 : q < B.length := by omega
    have e : nxtT A B A.length q = B.getD q 0 := by unfold nxtT; rw [if_neg h1]
    have e1 : stp A (B.getD q 0) A.length = A.length := by unfold stp; rw [if_neg (by omega)]
    have e2 : stp B (B.getD q 0) q = q + 1 := by unfold stp; rw [if_pos ⟨h2, rfl⟩]
    rw [drop_at h2, List.drop_length, e, e1, e2, oddB_succ, List.drop_length, mrg_nc]
theorem stp_go {A B : List Int} {p q : Nat} (h : p < A.length ∨ q < B.length) : p < stp A (nxtT A B p q) p ∨ q < stp B (nxtT A B p q) q := by
  by_cases h1 : p < A.length
  · by_cases h2 : q < B.length ∧ B.getD q 0 < A.getD p 0
    · have e : nxtT A B p q = B.getD q 0 := by unfold nxtT; rw [if_pos h1, if_pos h2]
      right; rw [e]; unfold stp; rw [if_pos ⟨h2.1, rfl⟩]; omega
    · have e : nxtT A B p q = A.getD p 0 := by unfold nxtT; rw [if_pos h1, if_neg h2]
      left; rw [e]; unfold stp; rw [if_pos ⟨h1, rfl⟩]; omega
  · have e : nxtT A B p q = B.getD q 0 := by unfold nxtT; rw [if_neg h1]
    right; rw [e]; unfold stp; rw [if_pos ⟨by omega, rfl⟩]; omega
theorem mrg_len : ∀ (n : Nat) (A : List Int) (p : Bool) (B : List Int) (q : Bool), A.length + B.length ≤ n → (mrg A p B q).length ≤ A.length + B.length
  | n, [], p, [], q, _ => by unfold mrg; simp
  | 0, a :: A, p, B, q, h => by simp at h
  | 0, [], p, b :: B, q, h => by simp at h
  | n + 1, a :: A, p, [], q, h => by
    rw [mrg_cn]
    have := mrg_len n A (!p) [] q (by simp at h ⊢; omega)
    simp at this ⊢
    omega
  | n + 1, [], p, b :: B, q, h => by
    rw [mrg_nc]
    have := mrg_len n [] p B (!q) (by simp at h ⊢; omega)
    simp at this ⊢
    omega
  | n + 1, a :: A, p, b :: B, q, h => by
    rw [mrg_cc]
    have h1 := mrg_len n A (!p) (b :: B) q (by simp at h ⊢; omega)
    have h2 := mrg_len n (a :: A) p B (!q) (by simp at h ⊢; omega)
    have h3 := mrg_len n A (!p) B (!q) (by simp at h ⊢; omega)
    simp at h1 h2 h3
    split
    · simp; omega
    · split <;> simp <;> omega
theorem mcomb1_len (f : Bool → Bool → Bool) (O : List Int) (e : Int × Bool × Bool) : (mcomb1 f O e).length ≤ O.length + 1 := by
  unfold mcomb1
  split
  · omega
  · simp
theorem mcomb_len (f : Bool → Bool → Bool) : ∀ (S : List (Int × Bool × Bool)) (O : List Int), (mcomb f S O).length ≤ O.length + S.length
  | [], O => by simp [mcomb]
  | e :: S, O => by
    have h1 := mcomb_len f S (mcomb1 f O e)
    have h2 := mcomb1_len f O e
    show (mcomb f S (mcomb1 f O e)).length ≤ _
    simp
    omega
theorem mcomb_next (f : Bool → Bool → Bool) {S : List (Int × Bool × Bool)} {i : Nat} {e : Int × Bool × Bool} (h : S[i]? = some e) (O : List Int) : mcomb f (S.take (i + 1)) O = mcomb1 f (mcomb f (S.take i) O) e := by
  obtain ⟨hi, rfl⟩ := List.getElem?_eq_some_iff.1 h
  rw [List.take_succ_eq_append_getElem hi]
  unfold mcomb
  rw [List.foldl_append]
  rfl
theorem mrg_end {A B : List Int} {p q : Bool} : mrg (A.drop A.length) p (B.drop B.length) q = [] := by
  rw [List.drop_length, List.drop_length]
  unfold mrg
  rfl
theorem drop_head {α : Type} {S : List α} {k : Nat} {x : α} {r : List α} (h : S.drop k = x :: r) : S[k]? = some x ∧ S.drop (k + 1) = r ∧ k < S.length := by
  have hk : k < S.length := by
    apply Nat.lt_of_not_le
    intro hc
    rw [List.drop_eq_nil_of_le hc] at h
    simp at h
  rw [List.drop_eq_getElem_cons hk, List.cons.injEq] at h
  exact ⟨by rw [List.getElem?_eq_getElem hk, h.1], h.2, hk⟩
end Go.Step
/- Arrays of small values: their elements' places, two of them built. No conditions. -/
namespace Go.Eng
variable {C : Cx} {R H : List PH} {L : Env} {dst : Option Tmp} {ty : TypeId} {pos : String} {aft : Array Edge} {g : Option (Nat × Bool)}
theorem q_idxA {x y : Operand} {t e : TypeId} {b o n i : Nat} {k : IntKind} (h : evalE L x = some (.pointer (some ⟨b, o, none⟩))) (h2 : evalE L y = some (.int k (i : Int))) (ht : C.P.underlying t = some (.array n e)) (hs : szP C.P e = some 1) (hn : i < n) :
    Quiet C R H L ⟨dst, .indexAddr t x y, ty, pos, aft, g⟩ (.pointer (some ⟨b, o + i, none⟩)) :=
  ⟨by intro c; simp, fun a w hx _ => by
    simp [execOp, hx x (by simp [Op.operands]) _ h, hx y (by simp [Op.operands]) _ h2, Instr.indexAt, Instr.sureAddr, asIntOf, run_underlying ht, hn, run_sizeOf hs, Addr.add_lit]⟩
theorem q_idxA0 {x y : Operand} {t e : TypeId} {b o n : Nat} {k : IntKind} (h : evalE L x = some (.pointer (some ⟨b, o, none⟩))) (h2 : evalE L y = some (.int k 0)) (ht : C.P.underlying t = some (.array n e)) (hs : szP C.P e = some 1) (hn : 0 < n) :
    Quiet C R H L ⟨dst, .indexAddr t x y, ty, pos, aft, g⟩ (.pointer (some ⟨b, o, none⟩)) := q_idxA (i := 0) h h2 ht hs hn
theorem q_idxA1 {x y : Operand} {t e : TypeId} {b o n : Nat} {k : IntKind} (h : evalE L x = some (.pointer (some ⟨b, o, none⟩))) (h2 : evalE L y = some (.int k 1)) (ht : C.P.underlying t = some (.array n e)) (hs : szP C.P e = some 1) (hn : 1 < n) :
    Quiet C R H L ⟨dst, .indexAddr t x y, ty, pos, aft, g⟩ (.pointer (some ⟨b, o + 1, none⟩)) := q_idxA (i := 1) h h2 ht hs hn
theorem q_buildA2 {x y : Operand} {t e : TypeId} {z0 z1 v0 v1 : Value} (h : evalE L x = some v0) (h2 : evalE L y = some v1) (ht : C.P.underlying t = some (.array 2 e)) (hs : szP C.P e = some 1) (hz : zeroP C.P t = some (.agg #[z0, z1])) (o0 : v0.oneCell' = true) (o1 : v1.oneCell' = true) :
    Quiet C R H L ⟨dst, .build t #[(0, x), (1, y)], ty, pos, aft, g⟩ (.agg #[v0, v1]) :=
  ⟨by intro c; simp, fun a w hx _ => by
    have c0 : v0.cells = #[v0] := by cases v0 <;> first | rfl | simp [Value.oneCell'] at o0
    have c1 : v1.cells = #[v1] := by cases v1 <;> first | rfl | simp [Value.oneCell'] at o1
    have cz : (Value.agg #[z0, z1]).cells = #[z0, z1] := rfl
    simp [execOp, hx x (by simp [Op.operands]) _ h, hx y (by simp [Op.operands]) _ h2, Instr.build, run_zeroValue hz, run_underlying ht, run_sizeOf hs, cz, Instr.fill, c0, c1]⟩
end Go.Eng
/- Where the ways of a test meet behind it: the test's region and the test. No conditions. -/
namespace Go.Eng
variable {C : Cx} {D : List Deferred} {R H : List PH} {L : Env} {K : List It}
end Go.Eng
/- Inside a region that draws its order: the chunks in another order. No conditions. -/
namespace Go.Eng
variable {C : Cx} {D : List Deferred} {R H Hf : List PH} {L : Env} {K : List It} {ps ls : List Nat}
theorem Quiet.perm {H' : List PH} {o : Oper} {v : Value} (hp : H'.Perm H) (h : Quiet C R H L o v) : Quiet C R H' L o v := ⟨h.1, fun a w hx hs => h.2 a w hx (hs.perm hp)⟩
theorem dj_perm {H' : List PH} {all : Array Oper} {done : List Nat} {plan : Pl} (hp : H.Perm H') (h : DJ C D R Hf H' L all done ps ls plan K) : DJ C D R Hf H L all done ps ls plan K := by
  refine ⟨fun hpl fuel listed a w hinv => h.run hpl fuel listed a w ⟨hinv.size, hinv.dc, hinv.sub, hinv.fuel, hinv.tm, hinv.df, hinv.sat.perm hp, hinv.get, fun i hi hn => ?_, fun w hw => hinv.hf w (hw.perm hp.symm), hinv.lds, hinv.data, hinv.uniq, hinv.chron⟩⟩
  obtain ⟨o, d, v, h1, h2, h3, h4, h5⟩ := hinv.prom i hi hn
  refine ⟨o, d, v, h1, h2, h3, h4, ?_⟩
  rcases h5 with ⟨k1, k2⟩ | k
  · refine .inl ⟨k1, ?_⟩
    split at k2
    · rename_i c; rw [if_pos c]; exact k2
    · rename_i c; rw [if_neg c]; exact k2.perm hp.symm
  · exact .inr k
/-- another plan for what is left -/
theorem dj_replan {all : Array Oper} {done : List Nat} {plan : Pl} (plan' : Pl) (hp : planOK all done ps ls plan' = true) (h : DJ C D R Hf H L all done ps ls plan' K) : DJ C D R Hf H L all done ps ls plan K := ⟨fun _ => h.run hp⟩
end Go.Eng
/- The ends of two sets, in their order. -/
namespace Go.Proofs.YtjbebmealbnmgaaGreat
open Go.Eng Go.Step
set_option maxRecDepth 100000
set_option maxHeartbeats 4000000

theorem sideNext_spec (ρ : PH) (v : Value) (l : Iv) (b p : Nat) (hv : SpAt ρ v l) (hl : l.length ≤ 4611686018427387903) (hp : p ≤ 2 * l.length) :
    Ans Tryz.prog (fv 93) [.pointer (some ⟨b, 0, none⟩)] [sng b (.cells #[v, int ((p / 2 : Nat) : Int), .bool (oddB p)] 132 (0, 0)), ρ] (fun r => r = .tuple #[int ((tog l).getD p 0), .bool (decide (p < 2 * l.length))]) := by
  obtain ⟨q, c, rfl, hr⟩ := hv.val encS_len
  have hod := oddB_cases p
  obtain ⟨i, hi⟩ : ∃ i, p / 2 = i := ⟨_, rfl⟩
  rw [hi] at hod ⊢
  have ct : RdN (sng b (.cells #[.slice q l.length c, int ((i : Nat) : Int), .bool (oddB p)] 132 (0, 0))) b 0 [.slice q l.length c, int ((i : Nat) : Int), .bool (oddB p)] := rdN_sng (vs := [.slice q l.length c, int ((i : Nat) : Int), .bool (oddB p)])
  have ct0 : rdc (sng b (.cells #[.slice q l.length c, int ((i : Nat) : Int), .bool (oddB p)] 132 (0, 0))) b 0 = some (.slice q l.length c) := by rw [rdc_sng]; rfl
  have ct1 : rdc (sng b (.cells #[.slice q l.length c, int ((i : Nat) : Int), .bool (oddB p)] 132 (0, 0))) b 1 = some (int ((i : Nat) : Int)) := by rw [rdc_sng]; rfl
  have ct2 : rdc (sng b (.cells #[.slice q l.length c, int ((i : Nat) : Int), .bool (oddB p)] 132 (0, 0))) b 2 = some (.bool (oddB p)) := by rw [rdc_sng]; rfl
  refine spec_in (cap := []) Tryz.func93 rfl rfl Tryz.ntmps93 rfl (by (repeat (first | exact EnvA.nil EnvI.nil | apply EnvA.cons | apply EnvA.nil | exact EnvI.nil | apply EnvI.cons)); first | done | fail) (fun N β => ?_)
  by_cases h0 : p = 2 * l.length
  · have hR : (tog l).getD p 0 = 0 := by rw [List.getD_eq_getElem?_getD, List.getElem?_eq_none (by rw [tog_len]; omega)]; rfl
    rw [hR, decide_eq_false (by omega)]
    have hil : i = l.length := by omega
    refine jk_seq ?_
    refine jk_region ?_
    refine zq_assign ?_
    refine zq_assign ?_
    refine jk_nil ?_
    refine jk_seq ?_
    refine jk_block ?_
    refine jk_seq ?_
    refine jk_draw (.q 0 (.q 1 (.q 2 (.q 3 (.q 4 (.q 5 (.q 6 (.q 7 (.q 8 (.q 9 (.q 10 .nil))))))))))) [] rfl (by kernel_rfl) selZ ?_
    refine zd_move ?_
    refine zd_nilCheck ?_
    refine zd_fld0 ?_
    refine zd_load ?_
    refine zd_move ?_
    refine zd_nilCheck ?_
    refine zd_fld0 ?_
    refine zd_load ?_
    refine zd_len ?_
    refine zd_eq ?_
    refine zd_assign ?_
    refine dj_end ?_
    refine jk_if_t rfl ?_
    refine jk_seq ?_
    refine jk_region ?_
    refine zq_assign ?_
    refine zq_assign ?_
    refine jk_nil ?_
    exact jk_ret_any (res2 rfl rfl rfl) (by (repeat (first | exact rs_nil | (refine rs_cons ?_ ?_; (focus ((repeat (first | exact .here | apply Mem.there | apply Take.there)); first | done | fail))) | exact fun ρ hρ => hρ | (intro ρ hρ; repeat (first | exact hρ | refine List.mem_cons_of_mem _ ?_)))); first | done | fail) selZ ⟨rfl, rfl⟩
  have hil : i < l.length := by omega
  obtain ⟨g1, g2⟩ := tog_get l i _ (List.getElem?_eq_getElem hil)
  rw [decide_eq_true (show p < 2 * l.length by omega)]
  obtain ⟨b4, o4, rfl, hrd, x0, x1⟩ := spRow hr (List.getElem?_eq_getElem hil)
  rcases hod with ⟨ho, hp2⟩ | ⟨ho, hp2⟩
  · have hR : (tog l).getD p 0 = l[i].2 := by rw [List.getD_eq_getElem?_getD, hp2, g2]; rfl
    rw [hR]
    rw [ho] at ct ct0 ct1 ct2 ⊢
    generalize l[i] = x at hrd x0 x1
    refine jk_seq ?_
    refine jk_region ?_
    refine zq_assign ?_
    refine zq_assign ?_
    refine jk_nil ?_
    refine jk_seq ?_
    refine jk_block ?_
    refine jk_seq ?_
    refine jk_draw (.q 0 (.q 1 (.q 2 (.q 3 (.q 4 (.q 5 (.q 6 (.q 7 (.q 8 (.q 9 (.q 10 .nil))))))))))) [] rfl (by kernel_rfl) selZ ?_
    refine zd_move ?_
    refine zd_nilCheck ?_
    refine zd_fld0 ?_
    refine zd_load ?_
    refine zd_move ?_
    refine zd_nilCheck ?_
    refine zd_fld0 ?_
    refine zd_load ?_
    refine zd_len ?_
    refine zd_eqF ?_
    refine zd_assign ?_
    refine dj_end ?_
    refine jk_if_f rfl ?_
    refine jk_seq ?_
    refine jk_region ?_
    refine zq_move ?_
    refine zq_nilCheck ?_
    refine zq_fld0 ?_
    refine zq_load ?_
    refine zq_assign ?_
    refine jk_nil ?_
    refine jk_if_t rfl ?_
    refine jk_seq ?_
    refine jk_draw (.q 0 (.q 1 (.q 2 (.q 3 (.q 4 (.q 5 (.q 6 (.q 7 (.q 8 (.q 9 (.q 10 (.q 11 (.q 12 .nil))))))))))))) [] rfl (by kernel_rfl) selZ ?_
    refine zd_move ?_
    refine zd_nilCheck ?_
    refine zd_fld0 ?_
    refine zd_load ?_
    refine zd_move ?_
    refine zd_nilCheck ?_
    refine zd_fld0 ?_
    refine zd_load ?_
    refine zd_idxN ?_
    refine zd_fld ?_
    refine zd_load ?_
    refine zd_assign ?_
    refine zd_assign ?_
    refine dj_end ?_
    skip
    exact jk_ret_any (res2 rfl rfl rfl) (by (repeat (first | exact rs_nil | (refine rs_cons ?_ ?_; (focus ((repeat (first | exact .here | apply Mem.there | apply Take.there)); first | done | fail))) | exact fun ρ hρ => hρ | (intro ρ hρ; repeat (first | exact hρ | refine List.mem_cons_of_mem _ ?_)))); first | done | fail) selZ ⟨rfl, rfl⟩
  · have hR : (tog l).getD p 0 = l[i].1 := by rw [List.getD_eq_getElem?_getD, hp2, g1]; rfl
    rw [hR]
    rw [ho] at ct ct0 ct1 ct2 ⊢
    generalize l[i] = x at hrd x0 x1
    refine jk_seq ?_
    refine jk_region ?_
    refine zq_assign ?_
    refine zq_assign ?_
    refine jk_nil ?_
    refine jk_seq ?_
    refine jk_block ?_
    refine jk_seq ?_
    refine jk_draw (.q 0 (.q 1 (.q 2 (.q 3 (.q 4 (.q 5 (.q 6 (.q 7 (.q 8 (.q 9 (.q 10 .nil))))))))))) [] rfl (by kernel_rfl) selZ ?_
    refine zd_move ?_
    refine zd_nilCheck ?_
    refine zd_fld0 ?_
    refine zd_load ?_
    refine zd_move ?_
    refine zd_nilCheck ?_
    refine zd_fld0 ?_
    refine zd_load ?_
    refine zd_len ?_
    refine zd_eqF ?_
    refine zd_assign ?_
    refine dj_end ?_
    refine jk_if_f rfl ?_
    refine jk_seq ?_
    refine jk_region ?_
    refine zq_move ?_
    refine zq_nilCheck ?_
    refine zq_fld0 ?_
    refine zq_load ?_
    refine zq_assign ?_
    refine jk_nil ?_
    refine jk_if_f rfl ?_
    refine jk_skip ?_
    refine jk_blk ?_
    refine jk_seq ?_
    refine jk_draw (.q 0 (.q 1 (.q 2 (.q 3 (.q 4 (.q 5 (.q 6 (.q 7 (.q 8 (.q 9 (.q 10 (.q 11 (.q 12 .nil))))))))))))) [] rfl (by kernel_rfl) selZ ?_
    refine zd_move ?_
    refine zd_nilCheck ?_
    refine zd_fld0 ?_
    refine zd_load ?_
    refine zd_move ?_
    refine zd_nilCheck ?_
    refine zd_fld0 ?_
    refine zd_load ?_
    refine zd_idxN ?_
    refine zd_fldZ ?_
    refine zd_load ?_
    refine zd_assign ?_
    refine zd_assign ?_
    refine dj_end ?_
    skip
    exact jk_ret_any (res2 rfl rfl rfl) (by (repeat (first | exact rs_nil | (refine rs_cons ?_ ?_; (focus ((repeat (first | exact .here | apply Mem.there | apply Take.there)); first | done | fail))) | exact fun ρ hρ => hρ | (intro ρ hρ; repeat (first | exact hρ | refine List.mem_cons_of_mem _ ?_)))); first | done | fail) selZ ⟨rfl, rfl⟩
set_option maxHeartbeats 16000000 in
theorem sidePass_spec (ρ : PH) (v : Value) (l : Iv) (b p : Nat) (t : Int) (hv : SpAt ρ v l) (hl : l.length ≤ 4611686018427387903) (hp : p ≤ 2 * l.length) :
    Eng.Spec Tryz.prog (fv 94) [.pointer (some ⟨b, 0, none⟩), int t] [ρ] [sng b (.cells #[v, int ((p / 2 : Nat) : Int), .bool (oddB p)] 132 (0, 0))] (fun r H' => r = .tuple #[] ∧ H' = [sng b (.cells #[v, int ((stp (tog l) t p / 2 : Nat) : Int), .bool (oddB (stp (tog l) t p))] 132 (0, 0))]) := by
  have hn := sideNext_spec ρ v l b p hv hl hp
  obtain ⟨q, c, rfl, hr⟩ := hv.val encS_len
  refine spec_in (cap := []) Tryz.func94 rfl rfl Tryz.ntmps94 rfl (by (repeat (first | exact EnvA.nil EnvI.nil | apply EnvA.cons | apply EnvA.nil | exact EnvI.nil | apply EnvI.cons)); first | done | fail) (fun N β => ?_)
  refine jk_seq ?_
  refine jk_seq ?_
  refine jk_region ?_
  refine zq_move ?_
  refine jk_call hn rfl rfl rdZ rfl rfl ?_
  rintro _ rfl
  by_cases h1 : p < 2 * l.length
  rotate_left
  · have hs : stp (tog l) t p = p := by unfold stp; rw [if_neg (by rw [tog_len]; omega)]
    rw [hs, decide_eq_false h1]
    refine zq_move ?_
    refine zq_extract ?_
    refine zq_extract ?_
    refine zq_assign ?_
    refine zq_assign ?_
    refine jk_nil ?_
    refine jk_seq ?_
    refine jk_region ?_
    refine zq_move ?_
    refine zq_not ?_
    refine zq_move ?_
    refine jk_pass rfl rfl rfl ?_
    refine jk_pass rfl rfl rfl ?_
    refine jk_pass rfl rfl rfl ?_
    refine zq_pick_t ?_
    refine jk_nil ?_
    refine jk_if_t rfl ?_
    exact jk_ret_any (res0 rfl) (by (repeat (first | exact rs_nil | (refine rs_cons ?_ ?_; (focus ((repeat (first | exact .here | apply Mem.there | apply Take.there)); first | done | fail))) | exact fun ρ hρ => hρ | (intro ρ hρ; repeat (first | exact hρ | refine List.mem_cons_of_mem _ ?_)))); first | done | fail) selZ ⟨rfl, rfl⟩
  rw [decide_eq_true h1]
  by_cases h2 : (tog l).getD p 0 = t
  rotate_left
  · have hs : stp (tog l) t p = p := by unfold stp; rw [if_neg (fun h => h2 h.2)]
    rw [hs]
    generalize (tog l).getD p 0 = z at h2
    refine zq_move ?_
    refine zq_extract ?_
    refine zq_extract ?_
    refine zq_assign ?_
    refine zq_assign ?_
    refine jk_nil ?_
    refine jk_seq ?_
    refine jk_region ?_
    refine zq_move ?_
    refine zq_not ?_
    refine zq_move ?_
    refine zq_move ?_
    refine zq_move ?_
    refine zq_ne ?_
    refine zq_pick_f ?_
    refine jk_nil ?_
    refine jk_if_t rfl ?_
    exact jk_ret_any (res0 rfl) (by (repeat (first | exact rs_nil | (refine rs_cons ?_ ?_; (focus ((repeat (first | exact .here | apply Mem.there | apply Take.there)); first | done | fail))) | exact fun ρ hρ => hρ | (intro ρ hρ; repeat (first | exact hρ | refine List.mem_cons_of_mem _ ?_)))); first | done | fail) selZ ⟨rfl, rfl⟩
  have hs : stp (tog l) t p = p + 1 := by unfold stp; rw [if_pos ⟨by rw [tog_len]; exact h1, h2⟩]
  rw [hs, h2]
  have hod := oddB_cases p
  have hi2 : (p + 1) / 2 = if oddB p = true then p / 2 + 1 else p / 2 := by
    rcases hod with ⟨ho, hp2⟩ | ⟨ho, hp2⟩
    · rw [if_pos ho]; omega
    · rw [if_neg (by rw [ho]; simp)]; omega
  rw [hi2, oddB_succ]
  obtain ⟨i, hi⟩ : ∃ i, p / 2 = i := ⟨_, rfl⟩
  rw [hi] at hod ⊢
  clear hn
  rcases hod with ⟨ho, hp2⟩ | ⟨ho, hp2⟩
  · rw [ho, if_pos rfl]
    refine zq_move ?_
    refine zq_extract ?_
    refine zq_extract ?_
    refine zq_assign ?_
    refine zq_assign ?_
    refine jk_nil ?_
    refine jk_seq ?_
    refine jk_region ?_
    refine zq_move ?_
    refine zq_not ?_
    refine zq_move ?_
    refine zq_move ?_
    refine zq_move ?_
    refine zq_neF ?_
    refine zq_pick_f ?_
    refine jk_nil ?_
    refine jk_if_f rfl ?_
    refine jk_skip ?_
    refine jk_seq ?_
    refine jk_seq ?_
    refine jk_region ?_
    refine zq_move ?_
    refine zq_nilCheck ?_
    refine zq_fld0 ?_
    refine zq_load ?_
    refine jk_nil ?_
    refine jk_if_t rfl ?_
    refine jk_region ?_
    refine zq_move ?_
    refine zq_nilCheck ?_
    refine zq_fld0 ?_
    refine zq_load ?_
    refine zq_inc ?_
    refine zq_nilCheck ?_
    refine zq_fld0 ?_
    refine zs_storeL ?_; rintro _ _ ⟨rfl, rfl⟩
    refine jk_nil ?_
    refine jk_region ?_
    refine zq_move ?_
    refine zq_move ?_
    refine zq_nilCheck ?_
    refine zq_fld0 ?_
    refine zq_load ?_
    refine zq_not ?_
    refine zq_nilCheck ?_
    refine zq_fld0 ?_
    refine zs_storeL ?_; rintro _ _ ⟨rfl, rfl⟩
    refine jk_nil ?_
    exact jk_end_any (res0 rfl) (by (repeat (first | exact rs_nil | (refine rs_cons ?_ ?_; (focus ((repeat (first | exact .here | apply Mem.there | apply Take.there)); first | done | fail))) | exact fun ρ hρ => hρ | (intro ρ hρ; repeat (first | exact hρ | refine List.mem_cons_of_mem _ ?_)))); first | done | fail) selZ ⟨rfl, rfl⟩
  · rw [ho, if_neg (by simp)]
    refine zq_move ?_
    refine zq_extract ?_
    refine zq_extract ?_
    refine zq_assign ?_
    refine zq_assign ?_
    refine jk_nil ?_
    refine jk_seq ?_
    refine jk_region ?_
    refine zq_move ?_
    refine zq_not ?_
    refine zq_move ?_
    refine zq_move ?_
    refine zq_move ?_
    refine zq_neF ?_
    refine zq_pick_f ?_
    refine jk_nil ?_
    refine jk_if_f rfl ?_
    refine jk_skip ?_
    refine jk_seq ?_
    refine jk_seq ?_
    refine jk_region ?_
    refine zq_move ?_
    refine zq_nilCheck ?_
    refine zq_fld0 ?_
    refine zq_load ?_
    refine jk_nil ?_
    refine jk_if_f rfl ?_
    refine jk_skip ?_
    refine jk_region ?_
    refine zq_move ?_
    refine zq_move ?_
    refine zq_nilCheck ?_
    refine zq_fld0 ?_
    refine zq_load ?_
    refine zq_not ?_
    refine zq_nilCheck ?_
    refine zq_fld0 ?_
    refine zs_storeL ?_; rintro _ _ ⟨rfl, rfl⟩
    refine jk_nil ?_
    exact jk_end_any (res0 rfl) (by (repeat (first | exact rs_nil | (refine rs_cons ?_ ?_; (focus ((repeat (first | exact .here | apply Mem.there | apply Take.there)); first | done | fail))) | exact fun ρ hρ => hρ | (intro ρ hρ; repeat (first | exact hρ | refine List.mem_cons_of_mem _ ?_)))); first | done | fail) selZ ⟨rfl, rfl⟩
end Go.Proofs.YtjbebmealbnmgaaGreat
/- The ends of two sets, in their order: an iterator. -/
namespace Go.Proofs.YtjbebmealbnmgaaGreat
open Go.Eng Go.Step
set_option maxRecDepth 100000
set_option maxHeartbeats 4000000

def encPt (x : Int × Bool × Bool) : List Value := [int x.1, .agg #[.bool x.2.1, .bool x.2.2]]
set_option maxHeartbeats 32000000 in
theorem points_iter (ρ τ : PH) (va vb : Value) (a b : Iv) (b1 b2 : Nat) (ha : SpAt ρ va a) (hb : SpAt τ vb b) (hla : a.length ≤ 1000000) (hlb : b.length ≤ 1000000) :
    Iter Tryz.prog (.func (.func 92) #[] #[.pointer (some ⟨b1, 0, none⟩), .pointer (some ⟨b2, 0, none⟩)]) [sng b1 (.cells #[va] 46 (0, 0)), sng b2 (.cells #[vb] 46 (0, 0)), ρ, τ] ((mrg (tog a) false (tog b) false).map encPt) := by
  intro y S Own Inv Stop Ry hy hyl σ0 hI0
  obtain ⟨yl, rfl⟩ := hyl
  have hna := fun bx p hp => sideNext_spec ρ va a bx p ha (by omega) hp
  have hnb := fun bx p hp => sideNext_spec τ vb b bx p hb (by omega) hp
  have hpa := fun bx p t hp => sidePass_spec ρ va a bx p t ha (by omega) hp
  have hpb := fun bx p t hp => sidePass_spec τ vb b bx p t hb (by omega) hp
  obtain ⟨qa, ca, rfl, hra⟩ := ha.val encS_len
  obtain ⟨qb, cb, rfl, hrb⟩ := hb.val encS_len
  have c1 : rdc (sng b1 (.cells #[.slice qa a.length ca] 46 (0, 0))) b1 0 = some (.slice qa a.length ca) := by rw [rdc_sng]; rfl
  have c2 : rdc (sng b2 (.cells #[.slice qb b.length cb] 46 (0, 0))) b2 0 = some (.slice qb b.length cb) := by rw [rdc_sng]; rfl
  have la := tog_len a
  have lb := tog_len b
  simp only [List.cons_append, List.nil_append]
  refine spec_in (cap := [.pointer (some ⟨b1, 0, none⟩), .pointer (some ⟨b2, 0, none⟩)]) Tryz.func92 rfl rfl Tryz.ntmps92 rfl (by (repeat (first | exact EnvA.nil EnvI.nil | apply EnvA.cons | apply EnvA.nil | exact EnvI.nil | apply EnvI.cons)); first | done | fail) (fun N β => ?_)
  refine jk_seq ?_
  refine jk_mid (X := Nat × Nat) [0, 1, 2] (fun _ => True) (fun x => [(4, .pointer (some ⟨x.1, 0, none⟩)), (5, .pointer (some ⟨x.2, 0, none⟩))]) (fun x => sng x.2 (.cells #[.slice qb b.length cb, int ((0 / 2 : Nat) : Int), .bool (oddB 0)] 132 (0, 0)) :: sng x.1 (.cells #[.slice qa a.length ca, int ((0 / 2 : Nat) : Int), .bool (oddB 0)] 132 (0, 0)) :: Own σ0) pickZ ?_ ?_
  · refine jk_draw (.q 0 (.q 1 (.q 3 (.q 4 (.l2 2 .e (.q 6 (.l 5 .e (.q 7 .nil))) 5 .e (.l 2 .e (.q 6 (.q 7 .nil)))))))) [] rfl (by kernel_rfl) Sel.nil ?_
    repeat' (first
      | (refine zd_assign ?_)
      | (refine zd_load ?_)
      | (refine zd_build ?_)
      | (refine dj_end ?_)
      | (refine dj_l2 ?_ ?_)
      | (refine ze_boxS ?_; rintro _ _ ⟨b, rfl, rfl⟩)
      | (refine zE_boxS ?_; rintro _ _ ⟨b, rfl, rfl⟩)
      | fail)
    · refine jk_meet (_, _) trivial covZ ?_
      exact Sel.refl
    · refine jk_perm (List.Perm.swap _ _ _) ?_
      refine jk_meet (_, _) trivial covZ ?_
      exact Sel.refl
  rintro ⟨bx, by_⟩ _
  dsimp only
  refine jk_block ?_
  refine jk_loop [0, 1, 2, 4, 5] (X := Nat × Nat × Nat × S) (0, 0, 0, σ0) (fun x => x.1 ≤ (mrg (tog a) false (tog b) false).length ∧ x.2.1 ≤ 2 * a.length ∧ x.2.2.1 ≤ 2 * b.length ∧ (mrg (tog a) false (tog b) false).drop x.1 = mrg ((tog a).drop x.2.1) (oddB x.2.1) ((tog b).drop x.2.2.1) (oddB x.2.2.1) ∧ Inv x.1 x.2.2.2) (fun _ => []) (fun x => sng by_ (.cells #[.slice qb b.length cb, int ((x.2.2.1 / 2 : Nat) : Int), .bool (oddB x.2.2.1)] 132 (0, 0)) :: sng bx (.cells #[.slice qa a.length ca, int ((x.2.1 / 2 : Nat) : Int), .bool (oddB x.2.1)] 132 (0, 0)) :: Own x.2.2.2) (fun x => (2 * a.length - x.2.1) + (2 * b.length - x.2.2.1)) pickZ ⟨by dsimp only; omega, by dsimp only; omega, by dsimp only; omega, rfl, hI0⟩ covZ Sel.refl ?_
  rintro ⟨k, p, q, σ'⟩ ⟨hk, hp, hq, hS, hI⟩
  dsimp only at hk hp hq hS hI ⊢
  have h1 := hna bx p hp
  have h2 := hnb by_ q hq
  refine jk_block ?_
  refine jk_seq ?_
  refine jk_region ?_
  refine zq_move ?_
  refine jk_call h1 rfl rfl rdZ rfl rfl ?_
  rintro _ rfl
  refine zq_move ?_
  refine zq_extract ?_
  refine zq_extract ?_
  refine zq_assign ?_
  refine zq_assign ?_
  refine jk_nil ?_
  refine jk_seq ?_
  refine jk_region ?_
  refine zq_move ?_
  refine jk_call h2 rfl rfl rdZ rfl rfl ?_
  rintro _ rfl
  generalize hm : (tog a).getD p 0 = m
  generalize hn : (tog b).getD q 0 = n
  by_cases h1 : p < 2 * a.length
  · rw [decide_eq_true h1]
    by_cases h2 : q < 2 * b.length ∧ n < m
    · have hX : nxtT (tog a) (tog b) p q = n := by unfold nxtT; rw [if_pos (by omega), if_pos (by rw [hm, hn]; omega), hn]
      rw [decide_eq_true h2.1]
      have h2n := h2.2
      have hlive : p < (tog a).length ∨ q < (tog b).length := by omega
      have hS' := mrg_at (by omega) (by omega) hlive
      have hgo := stp_go hlive
      rw [hX] at hS' hgo
      rw [← hS] at hS'
      obtain ⟨g1, g2, g3⟩ := drop_head hS'
      have p1 := stp_le (A := tog a) (t := n) (p := p) (by omega)
      have q1 := stp_le (A := tog b) (t := n) (p := q) (by omega)
      have hy1 := hy k σ' (encPt (n, oddB (stp (tog a) n p), oddB (stp (tog b) n q))) (by rw [List.getElem?_map, g1]; rfl) hI
      have k1 := hpa bx p n hp
      have k2 := hpb by_ q n hq
      generalize stp (tog a) n p = p' at g2 hy1 k1 p1 hgo
      generalize stp (tog b) n q = q' at g2 hy1 k2 q1 hgo
      refine zq_move ?_
      refine zq_extract ?_
      refine zq_extract ?_
      refine zq_assign ?_
      refine zq_assign ?_
      refine jk_nil ?_
      refine jk_seq ?_
      refine jk_seq ?_
      refine jk_region ?_
      refine zq_move ?_
      refine zq_not ?_
      refine zq_move ?_
      refine jk_pass rfl rfl rfl ?_
      refine jk_pass rfl rfl rfl ?_
      refine zq_pick_f ?_
      refine jk_nil ?_
      refine jk_if_f rfl ?_
      refine jk_skip ?_
      refine jk_seq ?_
      refine jk_region ?_
      refine zq_move ?_
      refine zq_assign ?_
      refine jk_nil ?_
      refine jk_seq ?_
      refine jk_seq ?_
      refine jk_region ?_
      refine zq_move ?_
      refine zq_not ?_
      refine zq_move ?_
      refine zq_move ?_
      refine zq_move ?_
      refine zq_move ?_
      refine zq_move ?_
      refine zq_lt ?_
      refine zq_pick_t ?_
      refine zq_pick_f ?_
      refine jk_nil ?_
      refine jk_if_t rfl ?_
      refine jk_region ?_
      refine zq_move ?_
      refine zq_assign ?_
      refine jk_nil ?_
      refine jk_seq ?_
      refine jk_region ?_
      refine zq_move ?_
      refine zq_move ?_
      refine jk_callH k1 rfl rfl (by (repeat (first | exact Takes.nil | (apply Takes.cons; exact (by (repeat (first | exact .here | apply Take.there)); first | done | fail)))); first | done | fail) rdZ rfl rfl ?_
      rintro _ _ ⟨rfl, rfl⟩
      refine jk_nil ?_
      refine jk_seq ?_
      refine jk_region ?_
      refine zq_move ?_
      refine zq_move ?_
      refine jk_callH k2 rfl rfl (by (repeat (first | exact Takes.nil | (apply Takes.cons; exact (by (repeat (first | exact .here | apply Take.there)); first | done | fail)))); first | done | fail) rdZ rfl rfl ?_
      rintro _ _ ⟨rfl, rfl⟩
      refine jk_nil ?_
      refine jk_seq ?_
      refine jk_draw (.q 0 (.q 1 (.q 2 (.q 3 (.q 4 (.q 5 (.q 6 (.q 7 (.q 8 (.q 9 (.q 10 (.l 11 .b (.q 12 .nil))))))))))))) [] rfl (by kernel_rfl) Sel.nil ?_
      refine zd_move ?_
      refine zd_move ?_
      refine zd_move ?_
      refine zd_nilCheck ?_
      refine zd_fld0 ?_
      refine zd_load ?_
      refine zd_move ?_
      refine zd_nilCheck ?_
      refine zd_fld0 ?_
      refine zd_load ?_
      focus ((refine' dj_q rfl _ rfl rfl rfl rfl _; rotate_left; (focus (apply q_buildA2; exact rfl; exact rfl; exact rfl; exact rfl; exact rfl; exact rfl; exact rfl))))
      refine dj_l (a_callH rfl hy1 rfl rfl (Takes.skip (Takes.skip Takes.all)) (fun τ hτ => .inl (by simp [hτ])) rfl rfl (fun _ _ _ w hw => hw.sel Sel.nil) ?_)
      rintro _ H' ⟨σ1, rfl, ⟨rfl, hI1⟩ | ⟨rfl, hSt⟩⟩
      · refine dj_perm (H' := _ :: _ :: Own σ1) (List.perm_append_comm (l₂ := [_, _])) ?_
        refine zd_not ?_
        refine dj_end ?_
        refine jk_if_f rfl ?_
        refine jk_skip ?_
        refine jk_blk ?_
        exact jk_round (k + 1, p', q', σ1) ⟨by dsimp only; omega, by dsimp only; omega, by dsimp only; omega, g2, hI1⟩ (by dsimp only; omega) covZ Sel.refl
      · refine zd_not ?_
        refine dj_end ?_
        refine jk_if_t rfl ?_
        exact jk_ret_any (res0 rfl) (fun _ h => h) Sel.left ⟨σ1, rfl, .inr hSt⟩
    · have hX : nxtT (tog a) (tog b) p q = m := by unfold nxtT; rw [if_pos (by omega), if_neg (by rw [hm, hn]; omega), hm]
      by_cases h3 : q < 2 * b.length
      · rw [decide_eq_true h3]
        have h2n : ¬ n < m := fun h => h2 ⟨h3, h⟩
        have hlive : p < (tog a).length ∨ q < (tog b).length := by omega
        have hS' := mrg_at (by omega) (by omega) hlive
        have hgo := stp_go hlive
        rw [hX] at hS' hgo
        rw [← hS] at hS'
        obtain ⟨g1, g2, g3⟩ := drop_head hS'
        have p1 := stp_le (A := tog a) (t := m) (p := p) (by omega)
        have q1 := stp_le (A := tog b) (t := m) (p := q) (by omega)
        have hy1 := hy k σ' (encPt (m, oddB (stp (tog a) m p), oddB (stp (tog b) m q))) (by rw [List.getElem?_map, g1]; rfl) hI
        have k1 := hpa bx p m hp
        have k2 := hpb by_ q m hq
        generalize stp (tog a) m p = p' at g2 hy1 k1 p1 hgo
        generalize stp (tog b) m q = q' at g2 hy1 k2 q1 hgo
        refine zq_move ?_
        refine zq_extract ?_
        refine zq_extract ?_
        refine zq_assign ?_
        refine zq_assign ?_
        refine jk_nil ?_
        refine jk_seq ?_
        refine jk_seq ?_
        refine jk_region ?_
        refine zq_move ?_
        refine zq_not ?_
        refine zq_move ?_
        refine jk_pass rfl rfl rfl ?_
        refine jk_pass rfl rfl rfl ?_
        refine zq_pick_f ?_
        refine jk_nil ?_
        refine jk_if_f rfl ?_
        refine jk_skip ?_
        refine jk_seq ?_
        refine jk_region ?_
        refine zq_move ?_
        refine zq_assign ?_
        refine jk_nil ?_
        refine jk_seq ?_
        refine jk_seq ?_
        refine jk_region ?_
        refine zq_move ?_
        refine zq_not ?_
        refine zq_move ?_
        refine zq_move ?_
        refine zq_move ?_
        refine zq_move ?_
        refine zq_move ?_
        refine zq_ltF ?_
        refine zq_pick_t ?_
        refine zq_pick_f ?_
        refine jk_nil ?_
        refine jk_if_f rfl ?_
        refine jk_skip ?_
        refine jk_seq ?_
        refine jk_region ?_
        refine zq_move ?_
        refine zq_move ?_
        refine jk_callH k1 rfl rfl (by (repeat (first | exact Takes.nil | (apply Takes.cons; exact (by (repeat (first | exact .here | apply Take.there)); first | done | fail)))); first | done | fail) rdZ rfl rfl ?_
        rintro _ _ ⟨rfl, rfl⟩
        refine jk_nil ?_
        refine jk_seq ?_
        refine jk_region ?_
        refine zq_move ?_
        refine zq_move ?_
        refine jk_callH k2 rfl rfl (by (repeat (first | exact Takes.nil | (apply Takes.cons; exact (by (repeat (first | exact .here | apply Take.there)); first | done | fail)))); first | done | fail) rdZ rfl rfl ?_
        rintro _ _ ⟨rfl, rfl⟩
        refine jk_nil ?_
        refine jk_seq ?_
        refine jk_draw (.q 0 (.q 1 (.q 2 (.q 3 (.q 4 (.q 5 (.q 6 (.q 7 (.q 8 (.q 9 (.q 10 (.l 11 .b (.q 12 .nil))))))))))))) [] rfl (by kernel_rfl) Sel.nil ?_
        refine zd_move ?_
        refine zd_move ?_
        refine zd_move ?_
        refine zd_nilCheck ?_
        refine zd_fld0 ?_
        refine zd_load ?_
        refine zd_move ?_
        refine zd_nilCheck ?_
        refine zd_fld0 ?_
        refine zd_load ?_
        focus ((refine' dj_q rfl _ rfl rfl rfl rfl _; rotate_left; (focus (apply q_buildA2; exact rfl; exact rfl; exact rfl; exact rfl; exact rfl; exact rfl; exact rfl))))
        refine dj_l (a_callH rfl hy1 rfl rfl (Takes.skip (Takes.skip Takes.all)) (fun τ hτ => .inl (by simp [hτ])) rfl rfl (fun _ _ _ w hw => hw.sel Sel.nil) ?_)
        rintro _ H' ⟨σ1, rfl, ⟨rfl, hI1⟩ | ⟨rfl, hSt⟩⟩
        · refine dj_perm (H' := _ :: _ :: Own σ1) (List.perm_append_comm (l₂ := [_, _])) ?_
          refine zd_not ?_
          refine dj_end ?_
          refine jk_if_f rfl ?_
          refine jk_skip ?_
          refine jk_blk ?_
          exact jk_round (k + 1, p', q', σ1) ⟨by dsimp only; omega, by dsimp only; omega, by dsimp only; omega, g2, hI1⟩ (by dsimp only; omega) covZ Sel.refl
        · refine zd_not ?_
          refine dj_end ?_
          refine jk_if_t rfl ?_
          exact jk_ret_any (res0 rfl) (fun _ h => h) Sel.left ⟨σ1, rfl, .inr hSt⟩
      · rw [decide_eq_false h3]
        have hlive : p < (tog a).length ∨ q < (tog b).length := by omega
        have hS' := mrg_at (by omega) (by omega) hlive
        have hgo := stp_go hlive
        rw [hX] at hS' hgo
        rw [← hS] at hS'
        obtain ⟨g1, g2, g3⟩ := drop_head hS'
        have p1 := stp_le (A := tog a) (t := m) (p := p) (by omega)
        have q1 := stp_le (A := tog b) (t := m) (p := q) (by omega)
        have hy1 := hy k σ' (encPt (m, oddB (stp (tog a) m p), oddB (stp (tog b) m q))) (by rw [List.getElem?_map, g1]; rfl) hI
        have k1 := hpa bx p m hp
        have k2 := hpb by_ q m hq
        generalize stp (tog a) m p = p' at g2 hy1 k1 p1 hgo
        generalize stp (tog b) m q = q' at g2 hy1 k2 q1 hgo
        refine zq_move ?_
        refine zq_extract ?_
        refine zq_extract ?_
        refine zq_assign ?_
        refine zq_assign ?_
        refine jk_nil ?_
        refine jk_seq ?_
        refine jk_seq ?_
        refine jk_region ?_
        refine zq_move ?_
        refine zq_not ?_
        refine zq_move ?_
        refine jk_pass rfl rfl rfl ?_
        refine jk_pass rfl rfl rfl ?_
        refine zq_pick_f ?_
        refine jk_nil ?_
        refine jk_if_f rfl ?_
        refine jk_skip ?_
        refine jk_seq ?_
        refine jk_region ?_
        refine zq_move ?_
        refine zq_assign ?_
        refine jk_nil ?_
        refine jk_seq ?_
        refine jk_seq ?_
        refine jk_region ?_
        refine zq_move ?_
        refine zq_not ?_
        refine zq_move ?_
        refine zq_move ?_
        refine zq_move ?_
        refine jk_pass rfl rfl rfl ?_
        refine jk_pass rfl rfl rfl ?_
        refine jk_pass rfl rfl rfl ?_
        refine zq_pick_f ?_
        refine zq_pick_f ?_
        refine jk_nil ?_
        refine jk_if_f rfl ?_
        refine jk_skip ?_
        refine jk_seq ?_
        refine jk_region ?_
        refine zq_move ?_
        refine zq_move ?_
        refine jk_callH k1 rfl rfl (by (repeat (first | exact Takes.nil | (apply Takes.cons; exact (by (repeat (first | exact .here | apply Take.there)); first | done | fail)))); first | done | fail) rdZ rfl rfl ?_
        rintro _ _ ⟨rfl, rfl⟩
        refine jk_nil ?_
        refine jk_seq ?_
        refine jk_region ?_
        refine zq_move ?_
        refine zq_move ?_
        refine jk_callH k2 rfl rfl (by (repeat (first | exact Takes.nil | (apply Takes.cons; exact (by (repeat (first | exact .here | apply Take.there)); first | done | fail)))); first | done | fail) rdZ rfl rfl ?_
        rintro _ _ ⟨rfl, rfl⟩
        refine jk_nil ?_
        refine jk_seq ?_
        refine jk_draw (.q 0 (.q 1 (.q 2 (.q 3 (.q 4 (.q 5 (.q 6 (.q 7 (.q 8 (.q 9 (.q 10 (.l 11 .b (.q 12 .nil))))))))))))) [] rfl (by kernel_rfl) Sel.nil ?_
        refine zd_move ?_
        refine zd_move ?_
        refine zd_move ?_
        refine zd_nilCheck ?_
        refine zd_fld0 ?_
        refine zd_load ?_
        refine zd_move ?_
        refine zd_nilCheck ?_
        refine zd_fld0 ?_
        refine zd_load ?_
        focus ((refine' dj_q rfl _ rfl rfl rfl rfl _; rotate_left; (focus (apply q_buildA2; exact rfl; exact rfl; exact rfl; exact rfl; exact rfl; exact rfl; exact rfl))))
        refine dj_l (a_callH rfl hy1 rfl rfl (Takes.skip (Takes.skip Takes.all)) (fun τ hτ => .inl (by simp [hτ])) rfl rfl (fun _ _ _ w hw => hw.sel Sel.nil) ?_)
        rintro _ H' ⟨σ1, rfl, ⟨rfl, hI1⟩ | ⟨rfl, hSt⟩⟩
        · refine dj_perm (H' := _ :: _ :: Own σ1) (List.perm_append_comm (l₂ := [_, _])) ?_
          refine zd_not ?_
          refine dj_end ?_
          refine jk_if_f rfl ?_
          refine jk_skip ?_
          refine jk_blk ?_
          exact jk_round (k + 1, p', q', σ1) ⟨by dsimp only; omega, by dsimp only; omega, by dsimp only; omega, g2, hI1⟩ (by dsimp only; omega) covZ Sel.refl
        · refine zd_not ?_
          refine dj_end ?_
          refine jk_if_t rfl ?_
          exact jk_ret_any (res0 rfl) (fun _ h => h) Sel.left ⟨σ1, rfl, .inr hSt⟩
  · rw [decide_eq_false h1]
    by_cases h2 : q < 2 * b.length
    · have hX : nxtT (tog a) (tog b) p q = n := by unfold nxtT; rw [if_neg (by omega), hn]
      rw [decide_eq_true h2]
      have hlive : p < (tog a).length ∨ q < (tog b).length := by omega
      have hS' := mrg_at (by omega) (by omega) hlive
      have hgo := stp_go hlive
      rw [hX] at hS' hgo
      rw [← hS] at hS'
      obtain ⟨g1, g2, g3⟩ := drop_head hS'
      have p1 := stp_le (A := tog a) (t := n) (p := p) (by omega)
      have q1 := stp_le (A := tog b) (t := n) (p := q) (by omega)
      have hy1 := hy k σ' (encPt (n, oddB (stp (tog a) n p), oddB (stp (tog b) n q))) (by rw [List.getElem?_map, g1]; rfl) hI
      have k1 := hpa bx p n hp
      have k2 := hpb by_ q n hq
      generalize stp (tog a) n p = p' at g2 hy1 k1 p1 hgo
      generalize stp (tog b) n q = q' at g2 hy1 k2 q1 hgo
      refine zq_move ?_
      refine zq_extract ?_
      refine zq_extract ?_
      refine zq_assign ?_
      refine zq_assign ?_
      refine jk_nil ?_
      refine jk_seq ?_
      refine jk_seq ?_
      refine jk_region ?_
      refine zq_move ?_
      refine zq_not ?_
      refine zq_move ?_
      refine zq_move ?_
      refine zq_not ?_
      refine zq_pick_t ?_
      refine jk_nil ?_
      refine jk_if_f rfl ?_
      refine jk_skip ?_
      refine jk_seq ?_
      refine jk_region ?_
      refine zq_move ?_
      refine zq_assign ?_
      refine jk_nil ?_
      refine jk_seq ?_
      refine jk_seq ?_
      refine jk_region ?_
      refine zq_move ?_
      refine zq_not ?_
      refine zq_move ?_
      refine jk_pass rfl rfl rfl ?_
      refine jk_pass rfl rfl rfl ?_
      refine jk_pass rfl rfl rfl ?_
      refine jk_pass rfl rfl rfl ?_
      refine jk_pass rfl rfl rfl ?_
      refine jk_pass rfl rfl rfl ?_
      refine zq_pick_t ?_
      refine jk_nil ?_
      refine jk_if_t rfl ?_
      refine jk_region ?_
      refine zq_move ?_
      refine zq_assign ?_
      refine jk_nil ?_
      refine jk_seq ?_
      refine jk_region ?_
      refine zq_move ?_
      refine zq_move ?_
      refine jk_callH k1 rfl rfl (by (repeat (first | exact Takes.nil | (apply Takes.cons; exact (by (repeat (first | exact .here | apply Take.there)); first | done | fail)))); first | done | fail) rdZ rfl rfl ?_
      rintro _ _ ⟨rfl, rfl⟩
      refine jk_nil ?_
      refine jk_seq ?_
      refine jk_region ?_
      refine zq_move ?_
      refine zq_move ?_
      refine jk_callH k2 rfl rfl (by (repeat (first | exact Takes.nil | (apply Takes.cons; exact (by (repeat (first | exact .here | apply Take.there)); first | done | fail)))); first | done | fail) rdZ rfl rfl ?_
      rintro _ _ ⟨rfl, rfl⟩
      refine jk_nil ?_
      refine jk_seq ?_
      refine jk_draw (.q 0 (.q 1 (.q 2 (.q 3 (.q 4 (.q 5 (.q 6 (.q 7 (.q 8 (.q 9 (.q 10 (.l 11 .b (.q 12 .nil))))))))))))) [] rfl (by kernel_rfl) Sel.nil ?_
      refine zd_move ?_
      refine zd_move ?_
      refine zd_move ?_
      refine zd_nilCheck ?_
      refine zd_fld0 ?_
      refine zd_load ?_
      refine zd_move ?_
      refine zd_nilCheck ?_
      refine zd_fld0 ?_
      refine zd_load ?_
      focus ((refine' dj_q rfl _ rfl rfl rfl rfl _; rotate_left; (focus (apply q_buildA2; exact rfl; exact rfl; exact rfl; exact rfl; exact rfl; exact rfl; exact rfl))))
      refine dj_l (a_callH rfl hy1 rfl rfl (Takes.skip (Takes.skip Takes.all)) (fun τ hτ => .inl (by simp [hτ])) rfl rfl (fun _ _ _ w hw => hw.sel Sel.nil) ?_)
      rintro _ H' ⟨σ1, rfl, ⟨rfl, hI1⟩ | ⟨rfl, hSt⟩⟩
      · refine dj_perm (H' := _ :: _ :: Own σ1) (List.perm_append_comm (l₂ := [_, _])) ?_
        refine zd_not ?_
        refine dj_end ?_
        refine jk_if_f rfl ?_
        refine jk_skip ?_
        refine jk_blk ?_
        exact jk_round (k + 1, p', q', σ1) ⟨by dsimp only; omega, by dsimp only; omega, by dsimp only; omega, g2, hI1⟩ (by dsimp only; omega) covZ Sel.refl
      · refine zd_not ?_
        refine dj_end ?_
        refine jk_if_t rfl ?_
        exact jk_ret_any (res0 rfl) (fun _ h => h) Sel.left ⟨σ1, rfl, .inr hSt⟩
    · rw [decide_eq_false h2]
      have hpe : p = (tog a).length := by omega
      have hqe : q = (tog b).length := by omega
      rw [hpe, hqe, mrg_end] at hS
      have hke : k = (mrg (tog a) false (tog b) false).length := by
        have := List.drop_eq_nil_iff.1 hS
        omega
      refine zq_move ?_
      refine zq_extract ?_
      refine zq_extract ?_
      refine zq_assign ?_
      refine zq_assign ?_
      refine jk_nil ?_
      refine jk_seq ?_
      refine jk_seq ?_
      refine jk_region ?_
      refine zq_move ?_
      refine zq_not ?_
      refine zq_move ?_
      refine zq_move ?_
      refine zq_not ?_
      refine zq_pick_t ?_
      refine jk_nil ?_
      refine jk_if_t rfl ?_
      refine jk_ret_any (res0 rfl) (fun _ h => h) (Sel.skip (Sel.skip Sel.refl)) ⟨σ', rfl, .inl ?_⟩
      rw [List.length_map, ← hke]
      exact hI
end Go.Proofs.YtjbebmealbnmgaaGreat
/- Sets combined. -/
namespace Go.Proofs.YtjbebmealbnmgaaGreat
open Go.Eng Go.Step
set_option maxRecDepth 100000
set_option maxHeartbeats 4000000

theorem points_spec (v u : Value) (hv : v.oneCell' = true) (hu : u.oneCell' = true) :
    Eng.Spec Tryz.prog (fv 74) [v, u] [] [] (fun r H' => ∃ b1 b2, r = .func (.func 92) #[] #[.pointer (some ⟨b1, 0, none⟩), .pointer (some ⟨b2, 0, none⟩)] ∧ H' = [sng b2 (.cells #[u] 46 (0, 0)), sng b1 (.cells #[v] 46 (0, 0))]) := by
  refine spec_in (cap := []) Tryz.func74 rfl rfl Tryz.ntmps74 rfl (by (repeat (first | exact EnvA.nil EnvI.nil | apply EnvA.cons | apply EnvA.nil | exact EnvI.nil | apply EnvI.cons)); first | done | fail) (fun N β => ?_)
  refine jk_seq ?_
  refine jk_region ?_
  refine jk_op (l_box1 rfl hv) rfl rfl rfl ?_
  rintro _ _ ⟨b1, rfl, rfl⟩
  refine jk_op (l_box1 rfl hu) rfl rfl rfl ?_
  rintro _ _ ⟨b2, rfl, rfl⟩
  refine zq_assign ?_
  refine jk_nil ?_
  refine jk_seq ?_
  refine jk_region ?_
  refine zq_makeFunc ?_
  refine zq_assign ?_
  refine jk_nil ?_
  exact jk_ret_any (res1 rfl rfl) (by (repeat (first | exact rs_nil | (refine rs_cons ?_ ?_; (focus ((repeat (first | exact .here | apply Mem.there | apply Take.there)); first | done | fail))) | exact fun ρ hρ => hρ | (intro ρ hρ; repeat (first | exact hρ | refine List.mem_cons_of_mem _ ?_)))); first | done | fail) selZ ⟨b1, b2, rfl, rfl⟩
set_option maxHeartbeats 32000000 in
theorem ivCombine_spec (ρ τ : PH) (va vb : Value) (gf : FuncId) (a b : Iv) (f : Bool → Bool → Bool) (ha : SpAt ρ va a) (hb : SpAt τ vb b) (h0a : chkI a = 0) (h0b : chkI b = 0) (hlen : a.length + b.length ≤ 1000) (hf : f false false = false)
    (hfn : ∀ x y, Ans Tryz.prog (.func (.func gf) #[] #[]) [.bool x, .bool y] [] (fun r => r = .bool (f x y))) :
    Makes Tryz.prog (fv 57) [va, vb, .func (.func gf) #[] #[]] [ρ, τ] (fun r σ => ∃ u, r = .tuple #[u, int 0] ∧ OwnS 53 2 u (combI f a b).length ((combI f a b).flatMap encS) σ) := by
  have hca := ivCheck_spec ρ va a ha (by omega)
  have hcb := ivCheck_spec τ vb b hb (by omega)
  rw [h0a] at hca
  rw [h0b] at hcb
  have hpts := fun b1 b2 => points_iter ρ τ va vb a b b1 b2 ha hb (by omega) (by omega)
  have hcl := (combI_ok hf (chkI_norm h0a).2.1 (chkI_norm h0b).2.1).2.2
  have hml := mrg_len _ (tog a) false (tog b) false (Nat.le_refl _)
  rw [tog_len, tog_len] at hml
  obtain ⟨qa, ca, rfl, _⟩ := ha.val encS_len
  obtain ⟨qb, cb, rfl, _⟩ := hb.val encS_len
  refine spec_in (cap := []) Tryz.func57 rfl rfl Tryz.ntmps57 rfl (by (repeat (first | exact EnvA.nil EnvI.nil | apply EnvA.cons | apply EnvA.nil | exact EnvI.nil | apply EnvI.cons)); first | done | fail) (fun N β => ?_)
  refine jk_emp ?_
  refine jk_seq ?_
  refine jk_region ?_
  refine zl_box1 ?_; rintro _ _ ⟨b, rfl, rfl⟩
  refine zq_assign ?_
  refine zq_assign ?_
  refine jk_nil ?_
  refine jk_seq ?_
  refine jk_seq ?_
  refine jk_region ?_
  refine zq_move ?_
  revert b; intro b5
  refine jk_freeze (ρ := sng b5 _) takeZ ?_
  have g5 : rdc (sng b5 (.cells #[.func (.func gf) #[] #[]] 93 (0, 0))) b5 0 = some (.func (.func gf) #[] #[]) := by rw [rdc_sng]; rfl
  refine jk_call hca rfl rfl rdZ rfl rfl ?_
  rintro _ rfl
  refine zq_neF ?_
  refine zq_move ?_
  refine zq_move ?_
  refine jk_call hcb rfl rfl rdZ rfl rfl ?_
  rintro _ rfl
  refine zq_neF ?_
  refine zq_pick_f ?_
  refine jk_nil ?_
  refine jk_if_f rfl ?_
  refine jk_skip ?_
  refine jk_seq ?_
  refine jk_region ?_
  refine zl_alloc1 ?_; rintro _ _ ⟨b, rfl, rfl⟩
  refine jk_nil ?_
  refine jk_seq ?_
  refine jk_region ?_
  refine zl_alloc1 ?_; rintro _ _ ⟨b, rfl, rfl⟩
  refine zs_storeL ?_; rintro _ _ ⟨rfl, rfl⟩
  refine jk_nil ?_
  refine jk_seq ?_
  refine jk_seq ?_
  refine jk_region ?_
  refine zq_move ?_
  refine zq_move ?_
  revert b; intro b9
  revert b; intro b8
  refine jk_callH (points_spec (.slice qa a.length ca) (.slice qb b.length cb) rfl rfl) rfl rfl Takes.nil (fun τ hτ => by simp at hτ) rfl rfl ?_
  rintro _ _ ⟨b1, b2, rfl, rfl⟩
  refine jk_freeze (ρ := sng b1 _) takeZ ?_
  refine jk_freeze (ρ := sng b2 _) takeZ ?_
  refine jk_nil ?_
  refine jk_block ?_
  refine jk_range (gf := 92) (cap := [.pointer (some ⟨b1, 0, none⟩), .pointer (some ⟨b2, 0, none⟩)]) (ps := [24, 25]) (X := Value × Bool × PH) rfl Tryz.func92 rfl rfl
    (hpts b1 b2) ?_
    (fun i x => x.2.1 = oddB (mcomb f ((mrg (tog a) false (tog b) false).take i) []).length ∧ OwnS 53 2 x.1 (spans (mcomb f ((mrg (tog a) false (tog b) false).take i) [])).length ((spans (mcomb f ((mrg (tog a) false (tog b) false).take i) [])).flatMap encS) x.2.2)
    (fun x => [sng b8 (.cells #[x.1] 46 (0, 0)), sng b9 (.cells #[.bool x.2.1] 4 (0, 0)), x.2.2]) (fun _ _ => False) (.slice none 0 0, false, emp) rfl (by (repeat (first | exact Takes.nil | (apply Takes.cons; exact (by (repeat (first | exact .here | apply Take.there)); first | done | fail)))); first | done | fail) ⟨rfl, OwnS.nil _ _⟩ ?_ ?_ ?_
  · intro σ' hσ
    simp only [List.mem_cons, List.not_mem_nil, or_false] at hσ ⊢
    rcases hσ with h | h | h | h <;> simp [h]
  · rintro lo r i ⟨u, ins, σ⟩ vs hvs ⟨hins, hO⟩ hps has hbd hst hpe hfr
    obtain ⟨st, pe, fnn, tm, prm, asg, bdy, df⟩ := r
    simp only at hps has hbd hst hpe hfr
    subst hps has hbd hst hpe
    rw [List.getElem?_map] at hvs
    obtain ⟨⟨t, x, y⟩, hc, rfl⟩ := Option.map_eq_some_iff.1 hvs
    have hnx := mcomb_next f hc []
    have hOl := mcomb_len f ((mrg (tog a) false (tog b) false).take i) []
    have hti : ((mrg (tog a) false (tog b) false).take i).length ≤ (mrg (tog a) false (tog b) false).length := by rw [List.length_take]; omega
    dsimp only at hins hO
    have hsl := spans_len (mcomb f ((mrg (tog a) false (tog b) false).take i) [])
    simp only [hnx]
    generalize mcomb f ((mrg (tog a) false (tog b) false).take i) [] = O at hins hO hOl hsl
    simp only [List.length_nil] at hOl
    have hone : ∀ z n (xs : List Value) (χ : PH), OwnS 53 2 z n xs χ → z.oneCell' = true := fun z n xs χ h => by obtain ⟨_, _, rfl⟩ := h.form; rfl
    have hu1 := hone _ _ _ _ hO
    have hfxy := hfn x y
    have hm1 : mcomb1 f O (t, x, y) = if f x y = oddB O.length then O else O ++ [t] := rfl
    refine yield_spec hfr rfl (by intro p hp; simp at hp; omega) (by (repeat (first | exact PutI.nil | apply PutI.cons)); first | done | fail) (fun N' β' => ?_)
    dsimp only
    refine jk_seq ?_
    refine jk_region ?_
    refine zq_assign ?_
    refine jk_nil ?_
    refine jk_region ?_
    refine zl_allocS ?_; rintro _ _ ⟨b, rfl, rfl⟩
    refine zs_storeS ?_; rintro _ _ ⟨rfl, rfl⟩
    refine jk_nil ?_
    refine jk_switch rfl rfl ?_
    refine jk_begin takeZ rfl ?_
    revert b; intro bx
    refine jk_block ?_
    refine jk_seq ?_
    refine jk_region ?_
    refine zq_load ?_
    focus ((refine jk_q (q_idxA0 rfl rfl rfl rfl (by decide)) rfl rfl rfl ?_))
    refine zq_load ?_
    focus ((refine jk_q (q_idxA1 rfl rfl rfl rfl (by decide)) rfl rfl rfl ?_))
    refine zq_load ?_
    refine jk_call hfxy rfl rfl rdZ rfl rfl ?_
    rintro _ rfl
    cases hfv : f x y with
    | true =>
      cases ins with
      | true =>
        rw [hfv, ← hins, if_pos rfl] at hm1
        refine zq_assign ?_
        refine jk_nil ?_
        refine jk_seq ?_
        refine jk_block ?_
        refine jk_seq ?_
        refine jk_region ?_
        refine zq_move ?_
        refine zq_move ?_
        refine zq_load ?_
        refine zq_not ?_
        refine zq_pick_t ?_
        refine zq_assign ?_
        refine jk_nil ?_
        refine jk_if_f rfl ?_
        refine jk_seq ?_
        refine jk_region ?_
        refine zq_move ?_
        refine zq_not ?_
        refine zq_move ?_
        refine jk_pass rfl rfl rfl ?_
        refine zq_pick_f ?_
        refine zq_assign ?_
        refine jk_nil ?_
        refine jk_if_f rfl ?_
        refine jk_skip ?_
        refine jk_blk ?_
        refine jk_region ?_
        refine zq_move ?_
        refine zs_storeL ?_; rintro _ _ ⟨rfl, rfl⟩
        refine jk_nil ?_
        refine jk_blk ?_
        exact jk_roundEnd takeZ (by (repeat (first | exact rs_nil | (refine rs_cons ?_ ?_; (focus ((repeat (first | exact .here | apply Mem.there | apply Take.there)); first | done | fail))) | exact fun ρ hρ => hρ | (intro ρ hρ; repeat (first | exact hρ | refine List.mem_cons_of_mem _ ?_)))); first | done | fail) selZ ⟨(u, true, σ), .inl ⟨rfl, ⟨by rw [hm1]; exact hins, by rw [hm1]; exact hO⟩, rfl⟩⟩
      | false =>
        rw [hfv, ← hins, if_neg (by simp)] at hm1
        have hsp := spans_even t hins.symm
        refine zq_assign ?_
        refine jk_nil ?_
        refine jk_seq ?_
        refine jk_block ?_
        refine jk_seq ?_
        refine jk_region ?_
        refine zq_move ?_
        refine zq_move ?_
        refine zq_load ?_
        refine zq_not ?_
        refine zq_pick_t ?_
        refine zq_assign ?_
        refine jk_nil ?_
        refine jk_if_t rfl ?_
        refine jk_region ?_
        refine zq_load ?_
        refine zq_move ?_
        refine zq_build ?_
        refine zl_buildSlice ?_; rintro _ _ ⟨b, rfl, rfl⟩
        refine jk_op (l_append (by_ := 16) (s := 2) (news := [int t, int 0]) rfl rfl rfl rfl rfl rfl rfl hO takeZ (cells_own memZ) rfl (by (repeat (first | exact (fun v hv => absurd hv List.not_mem_nil) | (refine List.forall_mem_cons.2 ⟨?_, ?_⟩; (focus (first | exact rfl | assumption))))); first | done | fail) (by omega) (by simp only [maxLen]; omega) (by omega)) rfl rfl rfl ?_
        rintro u1 _ ⟨σ1, hO1, rfl⟩
        have hu2 := hone _ _ _ _ hO1
        refine zs_storeL ?_; rintro _ _ ⟨rfl, rfl⟩
        refine jk_nil ?_
        refine jk_blk ?_
        refine jk_region ?_
        refine zq_move ?_
        refine zs_storeL ?_; rintro _ _ ⟨rfl, rfl⟩
        refine jk_nil ?_
        refine jk_blk ?_
        refine jk_roundEnd takeZ (by (repeat (first | exact rs_nil | (refine rs_cons ?_ ?_; (focus ((repeat (first | exact .here | apply Mem.there | apply Take.there)); first | done | fail))) | exact fun ρ hρ => hρ | (intro ρ hρ; repeat (first | exact hρ | refine List.mem_cons_of_mem _ ?_)))); first | done | fail) selZ ⟨(u1, true, σ1), .inl ⟨rfl, ⟨?_, ?_⟩, rfl⟩⟩
        · dsimp only
          rw [hm1, List.length_append, List.length_singleton, oddB_succ, ← hins]; rfl
        · dsimp only
          rw [hm1, hsp, List.length_append, List.flatMap_append]
          exact hO1
    | false =>
      cases ins with
      | false =>
        rw [hfv, ← hins, if_pos rfl] at hm1
        refine zq_assign ?_
        refine jk_nil ?_
        refine jk_seq ?_
        refine jk_block ?_
        refine jk_seq ?_
        refine jk_region ?_
        refine zq_move ?_
        refine zq_move ?_
        refine jk_pass rfl rfl rfl ?_
        refine jk_pass rfl rfl rfl ?_
        refine zq_pick_f ?_
        refine zq_assign ?_
        refine jk_nil ?_
        refine jk_if_f rfl ?_
        refine jk_seq ?_
        refine jk_region ?_
        refine zq_move ?_
        refine zq_not ?_
        refine zq_move ?_
        refine zq_load ?_
        refine zq_pick_t ?_
        refine zq_assign ?_
        refine jk_nil ?_
        refine jk_if_f rfl ?_
        refine jk_skip ?_
        refine jk_blk ?_
        refine jk_region ?_
        refine zq_move ?_
        refine zs_storeL ?_; rintro _ _ ⟨rfl, rfl⟩
        refine jk_nil ?_
        refine jk_blk ?_
        exact jk_roundEnd takeZ (by (repeat (first | exact rs_nil | (refine rs_cons ?_ ?_; (focus ((repeat (first | exact .here | apply Mem.there | apply Take.there)); first | done | fail))) | exact fun ρ hρ => hρ | (intro ρ hρ; repeat (first | exact hρ | refine List.mem_cons_of_mem _ ?_)))); first | done | fail) selZ ⟨(u, false, σ), .inl ⟨rfl, ⟨by rw [hm1]; exact hins, by rw [hm1]; exact hO⟩, rfl⟩⟩
      | true =>
        rw [hfv, ← hins, if_neg (by simp)] at hm1
        obtain ⟨l, c, e1, e2⟩ := spans_odd t hins.symm
        rw [e1] at hO hsl
        have hll : (l ++ [(c, (0 : Int))]).length = l.length + 1 := by simp
        obtain ⟨bu, cu, rfl⟩ := hO.formP (by omega)
        have hget : (l ++ [(c, (0 : Int))])[(l ++ [(c, (0 : Int))]).length - 1]? = some (c, 0) := by simp
        refine zq_assign ?_
        refine jk_nil ?_
        refine jk_seq ?_
        refine jk_block ?_
        refine jk_seq ?_
        refine jk_region ?_
        refine zq_move ?_
        refine zq_move ?_
        refine jk_pass rfl rfl rfl ?_
        refine jk_pass rfl rfl rfl ?_
        refine zq_pick_f ?_
        refine zq_assign ?_
        refine jk_nil ?_
        refine jk_if_f rfl ?_
        refine jk_seq ?_
        refine jk_region ?_
        refine zq_move ?_
        refine zq_not ?_
        refine zq_move ?_
        refine zq_load ?_
        refine zq_pick_t ?_
        refine zq_assign ?_
        refine jk_nil ?_
        refine jk_if_t rfl ?_
        refine jk_region ?_
        refine zq_load ?_
        refine zq_load ?_
        refine zq_len ?_
        refine zq_sub_nat ?_
        refine zq_move ?_
        refine zq_idxN ?_
        refine zq_fld ?_
        refine jk_op_none (l_storeF encS_len (s := 2) ((l ++ [(c, (0 : Int))]).length - 1) 1 (c, t) hO rfl (by simp; rfl) (by decide) hget rfl rfl rfl rfl takeZ) rfl rfl ?_
        rintro _ _ ⟨rfl, σ1, hO1, rfl⟩
        refine jk_nil ?_
        refine jk_blk ?_
        refine jk_region ?_
        refine zq_move ?_
        refine zs_storeL ?_; rintro _ _ ⟨rfl, rfl⟩
        refine jk_nil ?_
        refine jk_blk ?_
        refine jk_roundEnd takeZ (by (repeat (first | exact rs_nil | (refine rs_cons ?_ ?_; (focus ((repeat (first | exact .here | apply Mem.there | apply Take.there)); first | done | fail))) | exact fun ρ hρ => hρ | (intro ρ hρ; repeat (first | exact hρ | refine List.mem_cons_of_mem _ ?_)))); first | done | fail) selZ ⟨(.slice (some ⟨bu, 0, none⟩) (l ++ [(c, (0 : Int))]).length cu, false, σ1), .inl ⟨rfl, ⟨?_, ?_⟩, rfl⟩⟩
        · dsimp only
          rw [hm1, List.length_append, List.length_singleton, oddB_succ, ← hins]; rfl
        · dsimp only
          rw [hm1, e2]
          have es : (l ++ [(c, (0 : Int))]).set ((l ++ [(c, (0 : Int))]).length - 1) (c, t) = l ++ [(c, t)] := by simp
          rw [es] at hO1
          simpa using hO1
  · rintro b2' ⟨u, ins, σ⟩ ⟨hins, hO⟩
    rw [List.length_map, List.take_length] at hins hO
    dsimp only at hins hO
    have hO2 : OwnS 53 2 u (combI f a b).length ((combI f a b).flatMap encS) σ := hO
    obtain ⟨p, c, rfl⟩ := hO2.form
    clear hO
    generalize combI f a b = out at hO2 hcl
    refine jk_blk ?_
    refine jk_seq ?_
    refine jk_seq ?_
    refine jk_region ?_
    refine zq_load ?_
    refine zq_len ?_
    refine zq_gtF ?_
    refine jk_nil ?_
    refine jk_if_f rfl ?_
    refine jk_skip ?_
    refine jk_seq ?_
    refine jk_region ?_
    refine zq_load ?_
    refine zq_assign ?_
    refine zq_assign ?_
    refine jk_nil ?_
    exact jk_retM (Marks.cons .here .nil) (res2 rfl rfl rfl) (by (repeat (first | exact rs_nil | (refine rs_cons ?_ ?_; (focus ((repeat (first | exact .here | apply Mem.there | apply Take.there)); first | done | fail))) | exact fun ρ hρ => hρ | (intro ρ hρ; repeat (first | exact hρ | refine List.mem_cons_of_mem _ ?_)))); first | done | fail) selZ ⟨σ, ⟨_, rfl, hO2⟩, rfl⟩
  · rintro _ _ _ h; exact h.elim
end Go.Proofs.YtjbebmealbnmgaaGreat
/- Joins and meets of cuts: submodular. No program in sight. No conditions. -/
namespace Go.Step
/-- every list is a set, not too long -/
def SetsC (c : Cu) : Prop := ∀ l ∈ c, chkI l = 0 ∧ l.length ≤ 500
theorem SetsC.at {c : Cu} (h : SetsC c) (n : Int) : chkI (cuAt c n) = 0 ∧ (cuAt c n).length ≤ 500 := by
  unfold cuAt
  rw [List.getD_eq_getElem?_getD]
  cases e : c[n.toNat]? with
  | none => exact ⟨by decide, by simp⟩
  | some l => exact h l (List.mem_of_getElem? e)
end Go.Step
