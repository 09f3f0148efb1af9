/- Distances found level by level, over all links again and again; the first link that leads nearer; what is reached by n rounds. No program in sight. No conditions. -/
import Derived.Test.YtoccdekghjoldaaWMbReach
set_option linter.all false
namespace Go.Flow
/-- in the round d: the links of pre were looked at -/
structure LInv (n t : Nat) (E : Lk → Prop) (D : List Int) (d : Nat) (pre : List Lk) : Prop where
  len : D.length = n
  low : ∀ v, v < n → -1 ≤ D.getD v 0
  hi : ∀ v, v < n → D.getD v 0 ≤ (d : Int) + 1
  at0 : D.getD t 0 = 0
  zero : ∀ v, v < n → D.getD v 0 = 0 → v = t
  step : ∀ v, v < n → 0 < D.getD v 0 → ∃ x, E x ∧ x.f = v ∧ D.getD x.t 0 = D.getD v 0 - 1
  old : ∀ x, E x → 0 ≤ D.getD x.t 0 → D.getD x.t 0 < (d : Int) → 0 ≤ D.getD x.f 0 ∧ D.getD x.f 0 ≤ D.getD x.t 0 + 1
  pre0 : ∀ x ∈ pre, E x → D.getD x.t 0 = (d : Int) → 0 ≤ D.getD x.f 0
section
variable {n t : Nat} {E : Lk → Prop} {D : List Int} {d : Nat}
theorem LInv.start (ht : t < n) : LInv n t E ((List.replicate n (-1)).set t 0) 0 [] ∧ ∀ v, v < n → ((List.replicate n (-1 : Int)).set t 0).getD v 0 ≤ ((0 : Nat) : Int) := by
  have hg : ∀ v, v < n → ((List.replicate n (-1 : Int)).set t 0).getD v 0 = if t = v then 0 else -1 := fun v hv => by
    rw [getD_set (by simpa using ht)]
    split
    · rfl
    · exact getD_rep hv _
  have hlt : ∀ v, v < n → ((List.replicate n (-1 : Int)).set t 0).getD v 0 ≤ 0 := fun v hv => by rw [hg v hv]; split <;> omega
  refine ⟨⟨by simp, fun v hv => by rw [hg v hv]; split <;> omega, fun v hv => by have := hlt v hv; omega, by rw [hg t ht]; simp, fun v hv h => ?_, fun v hv h => by have := hlt v hv; omega, fun x _ h1 h2 => by omega, by simp⟩, hlt⟩
  rw [hg v hv] at h
  split at h
  · rename_i e; exact e.symm
  · omega
/-- a link that tells nothing new -/
theorem LInv.skip {pre : List Lk} {x : Lk} (h : LInv n t E D d pre) (hx : E x → D.getD x.t 0 = (d : Int) → 0 ≤ D.getD x.f 0) : LInv n t E D d (pre ++ [x]) :=
  ⟨h.len, h.low, h.hi, h.at0, h.zero, h.step, h.old, fun y hy => by
    rcases List.mem_append.1 hy with hy | hy
    · exact h.pre0 y hy
    · rw [List.mem_singleton.1 hy]; exact hx⟩
theorem LInv.mark {pre : List Lk} {x : Lk} (h : LInv n t E D d pre) (hE : E x) (hxf : x.f < n) (hd : D.getD x.t 0 = (d : Int)) (hneg : D.getD x.f 0 = -1) : LInv n t E (D.set x.f ((d : Int) + 1)) d (pre ++ [x]) := by
  have hl : x.f < D.length := by rw [h.len]; exact hxf
  have hg : ∀ v, (D.set x.f ((d : Int) + 1)).getD v 0 = if x.f = v then (d : Int) + 1 else D.getD v 0 := fun v => getD_set hl
  have hne : x.f ≠ x.t := fun e => by rw [e] at hneg; omega
  have htf : x.f ≠ t := fun e => by rw [e, h.at0] at hneg; omega
  refine ⟨by simp [h.len], fun v hv => ?_, fun v hv => ?_, ?_, fun v hv h0 => ?_, fun v hv h0 => ?_, fun y hy h1 h2 => ?_, fun y hy hyE h1 => ?_⟩
  · rw [hg]; have := h.low v hv; split <;> omega
  · rw [hg]; have := h.hi v hv; split <;> omega
  · rw [hg, if_neg htf]; exact h.at0
  · rw [hg] at h0
    split at h0
    · omega
    · exact h.zero v hv h0
  · rw [hg] at h0 ⊢
    split at h0
    · rename_i e
      refine ⟨x, hE, e, ?_⟩
      rw [if_pos e, hg, if_neg hne, hd]; omega
    · rename_i e
      obtain ⟨y, hy, hyf, hyt⟩ := h.step v hv h0
      refine ⟨y, hy, hyf, ?_⟩
      rw [if_neg e, hg]
      split
      · rename_i e2; rw [← e2, hneg] at hyt; omega
      · exact hyt
  · rw [hg] at h1 h2 ⊢
    split at h1
    · rename_i e; rw [if_pos e] at h2; omega
    · rename_i e
      rw [if_neg e] at h2
      have := h.old y hy h1 h2
      rw [hg y.t, if_neg e]
      split
      · rename_i e2; rw [← e2, hneg] at this; omega
      · exact this
  · rw [hg] at h1 ⊢
    split
    · omega
    · rename_i e
      split at h1
      · omega
      · rcases List.mem_append.1 hy with hy | hy
        · exact h.pre0 y hy hyE h1
        · rw [List.mem_singleton.1 hy] at e; exact absurd rfl e
/-- the round's end -/
theorem LInv.next {ls : List Lk} {pre : List Lk} (hsub : ∀ x, E x → x ∈ ls) (hE : ∀ x, E x → x.f < n ∧ x.t < n) (hp : ∀ x ∈ ls, x ∈ pre) (h : LInv n t E D d pre) : LInv n t E D (d + 1) [] :=
  ⟨h.len, h.low, fun v hv => by have := h.hi v hv; omega, h.at0, h.zero, h.step, fun x hx h1 h2 => by
    by_cases e : D.getD x.t 0 = (d : Int)
    · have := h.pre0 x (hp x (hsub x hx)) hx e
      have := h.hi x.f (hE x hx).1
      omega
    · exact h.old x hx h1 (by omega), by simp⟩
theorem LInv.dist (hE : ∀ x, E x → x.f < n ∧ x.t < n) (h : LInv n t E D (d + 1) []) (hno : ∀ v, v < n → D.getD v 0 ≤ (d : Int)) : IsDist n t E D :=
  ⟨h.len, h.low, h.at0, h.zero, fun x hx h1 => h.old x hx h1 (by have := hno x.t (hE x hx).2; omega), h.step⟩
end
/-- the least room, as the reference finds it -/
def rmin (rm : Nat → Int) : List Lk → Int
  | [] => 0
  | x :: p => p.foldl (fun m y => if rm y.k < m then rm y.k else m) (rm x.k)
theorem rmin_snoc (rm : Nat → Int) (p : List Lk) (x : Lk) : rmin rm (p ++ [x]) = if p = [] ∨ rm x.k < rmin rm p then rm x.k else rmin rm p := by
  cases p with
  | nil => simp [rmin]
  | cons y p => simp [rmin]
theorem rmin_least (rm : Nat → Int) (p : List Lk) (hp : p ≠ []) (hb : ∀ x ∈ p, rm x.k ≤ 1099511627776) : rmin rm p = leastR rm p := by
  cases p with
  | nil => exact absurd rfl hp
  | cons x p =>
    simp only [rmin, leastR, List.foldl_cons]
    have h0 : min 1099511627776 (rm x.k) = rm x.k := by have := hb x (by simp); omega
    rw [h0]
    clear hb hp h0
    generalize rm x.k = m
    induction p generalizing m with
    | nil => rfl
    | cons y p ih =>
      simp only [List.foldl_cons]
      rw [show (if rm y.k < m then rm y.k else m) = min m (rm y.k) from by split <;> omega]
      exact ih _
/-- links by their places -/
def atPl (ls : List Lk) : Prop := ∀ (i : Nat) (x : Lk), ls[i]? = some x → x.k = i
theorem rlinks_at (l : List Arc) : atPl (rlinks l) := fun i x hx => by
  have hlt : i < (rlinks l).length := (List.getElem?_eq_some_iff.1 hx).1
  rw [rlinks_len] at hlt
  obtain ⟨y, hy, e⟩ := rlinks_get hlt
  rw [hx] at hy
  obtain rfl := Option.some.inj hy
  exact e
theorem plinks_at (l : List Arc) : atPl (plinks l) := fun i x hx => by
  rw [plinks_get, Option.map_eq_some_iff] at hx
  obtain ⟨a, _, rfl⟩ := hx
  rfl
/-- after r rounds: all that can be reached by r links is marked -/
inductive RchN (E : Lk → Prop) (s : Nat) : Nat → Nat → Prop
  | refl {k : Nat} : RchN E s k s
  | step {k : Nat} {x : Lk} : RchN E s k x.f → E x → RchN E s (k + 1) x.t
theorem RchN.mono {E : Lk → Prop} {s k m v : Nat} (h : RchN E s k v) (hk : k ≤ m) : RchN E s m v := by
  induction h generalizing m with
  | refl => exact .refl
  | step _ hx ih =>
    obtain ⟨m', rfl⟩ : ∃ m', m = m' + 1 := ⟨m - 1, by omega⟩
    exact .step (ih (by omega)) hx
structure KInv (n s : Nat) (E : Lk → Prop) (B : List Bool) (r : Nat) (pre : List Lk) : Prop where
  len : B.length = n
  snd : ∀ v, v < n → bget B v = true → Rch E s v
  cmp : ∀ v, v < n → RchN E s r v → bget B v = true
  pre0 : ∀ x ∈ pre, E x → RchN E s r x.f → bget B x.t = true
section
variable {n s : Nat} {E : Lk → Prop} {B : List Bool} {r : Nat}
theorem KInv.start (hs : s < n) : KInv n s E ((List.replicate n false).set s true) 0 [] := by
  have hl : s < (List.replicate n false).length := by simpa using hs
  refine ⟨by simp, fun v _ h => ?_, fun v hv h => ?_, by simp⟩
  · rw [bget_set hl, bget_rep] at h
    split at h
    · rename_i e; rw [← e]; exact .refl
    · simp at h
  · cases h with
    | refl => rw [bget_set hl]; simp
theorem KInv.skip {pre : List Lk} {x : Lk} (h : KInv n s E B r pre) (hx : E x → bget B x.f = false) (hE : ∀ x, E x → x.f < n ∧ x.t < n) : KInv n s E B r (pre ++ [x]) :=
  ⟨h.len, h.snd, h.cmp, fun y hy hyE hr => by
    rcases List.mem_append.1 hy with hy | hy
    · exact h.pre0 y hy hyE hr
    · rw [List.mem_singleton.1 hy] at hyE hr ⊢
      have := h.cmp x.f (hE x hyE).1 hr
      rw [hx hyE] at this; simp at this⟩
theorem KInv.mark {pre : List Lk} {x : Lk} (h : KInv n s E B r pre) (hx : E x) (hxt : x.t < n) (hxf : x.f < n) (hb : bget B x.f = true) : KInv n s E (B.set x.t true) r (pre ++ [x]) := by
  have hl : x.t < B.length := by rw [h.len]; exact hxt
  have hg : ∀ u, bget B u = true → bget (B.set x.t true) u = true := fun u hu => by rw [bget_set hl]; split <;> simp [hu]
  refine ⟨by simp [h.len], fun v hv hv2 => ?_, fun v hv hr => hg v (h.cmp v hv hr), fun y hy hyE hr => ?_⟩
  · rw [bget_set hl] at hv2
    split at hv2
    · rename_i e; rw [← e]; exact .step (h.snd x.f hxf hb) hx
    · exact h.snd v hv hv2
  · rcases List.mem_append.1 hy with hy | hy
    · exact hg _ (h.pre0 y hy hyE hr)
    · rw [List.mem_singleton.1 hy, bget_set hl]; simp
theorem KInv.next {ls pre : List Lk} (hsub : ∀ x, E x → x ∈ ls) (hp : ∀ x ∈ ls, x ∈ pre) (hs : s < n) (h : KInv n s E B r pre) : KInv n s E B (r + 1) [] :=
  ⟨h.len, h.snd, fun v hv hr => by
    cases hr with
    | refl => exact h.cmp s hs .refl
    | @step _ x hr hx => exact h.pre0 x (hp x (hsub x hx)) hx hr, by simp⟩
end
theorem pigeon : ∀ (n : Nat) (f : List Nat), f.Nodup → (∀ v ∈ f, v < n) → f.length ≤ n
  | 0, f, _, h => by
    cases f with
    | nil => simp
    | cons a f => exact absurd (h a (by simp)) (by omega)
  | n + 1, f, hn, h => by
    have h1 := pigeon n (f.erase n) (hn.erase n) (fun v hv => by
      have h2 := (hn.mem_erase_iff).1 hv
      have := h v h2.2
      have := h2.1
      omega)
    rw [List.length_erase] at h1
    split at h1 <;> omega
/-- a shortest way has less than n links -/
theorem rchN_of {n s : Nat} {E : Lk → Prop} (hE : ∀ x, E x → x.f < n ∧ x.t < n) (hs : s < n) {v : Nat} (h : Rch E s v) : RchN E s n v := by
  -- the sets of what is reached by k links grow, or stay for ever
  let S : Nat → Nat → Prop := fun k v => RchN E s k v
  have key : ∀ k, (∀ v, S (k + 1) v → S k v) ∨ ∃ f : List Nat, f.length = k + 2 ∧ f.Nodup ∧ ∀ v ∈ f, v < n ∧ S (k + 1) v := by
    intro k
    induction k with
    | zero =>
      by_cases hc : ∀ v, S 1 v → S 0 v
      · exact .inl hc
      · right
        simp only [Classical.not_forall] at hc
        obtain ⟨v, h1, h2⟩ := hc
        have hvn : v < n := by cases h1 with
          | refl => exact hs
          | step _ hx => exact (hE _ hx).2
        refine ⟨[v, s], rfl, ?_, ?_⟩
        · simp only [List.nodup_cons, List.mem_singleton, List.not_mem_nil, not_false_eq_true, List.nodup_nil, and_true]
          rintro rfl
          exact h2 .refl
        · intro u hu
          simp at hu
          rcases hu with rfl | rfl
          · exact ⟨hvn, h1⟩
          · exact ⟨hs, .refl⟩
    | succ k ih =>
      by_cases hc : ∀ v, S (k + 2) v → S (k + 1) v
      · exact .inl hc
      · rcases ih with ih | ⟨f, f1, f2, f3⟩
        · -- nothing new came before: nothing new can come
          exfalso
          apply hc
          intro v hv
          cases hv with
          | refl => exact .refl
          | step hr hx => exact .step (ih _ hr) hx
        · right
          simp only [Classical.not_forall] at hc
          obtain ⟨v, h1, h2⟩ := hc
          have hvn : v < n := by cases h1 with
            | refl => exact hs
            | step _ hx => exact (hE _ hx).2
          refine ⟨v :: f, by simp [f1], List.nodup_cons.2 ⟨fun hm => h2 (f3 v hm).2, f2⟩, ?_⟩
          intro u hu
          simp at hu
          rcases hu with rfl | hu
          · exact ⟨hvn, h1⟩
          · exact ⟨(f3 u hu).1, (f3 u hu).2.mono (by omega)⟩
  have hcl : ∀ v, S (n + 1) v → S n v := by
    rcases key n with h | ⟨f, f1, f2, f3⟩
    · exact h
    · exfalso
      have : f.length ≤ n := pigeon n f f2 (fun v hv => (f3 v hv).1)
      omega
  induction h with
  | refl => exact .refl
  | step _ hx ih => exact hcl _ (.step ih hx)
theorem KInv.reach {n s : Nat} {E : Lk → Prop} {B : List Bool} (hE : ∀ x, E x → x.f < n ∧ x.t < n) (hs : s < n) (h : KInv n s E B n []) : IsReach n E s (bget B) :=
  fun v hv => ⟨h.snd v hv, fun hr => h.cmp v hv (rchN_of hE hs hr)⟩
end Go.Flow
