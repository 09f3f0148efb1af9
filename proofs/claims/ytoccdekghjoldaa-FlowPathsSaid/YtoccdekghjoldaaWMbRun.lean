/- Augmenting paths: a flow stays a flow, its value grows; the runs of the two searches. No program in sight. No conditions. -/
import Derived.Test.YtoccdekghjoldaaWMbNet
set_option linter.all false
namespace Go.Flow
/-- the links that are there and have room -/
def opn (ls : List Lk) (rm : Nat → Int) (x : Lk) : Prop := x ∈ ls ∧ 0 < rm x.k
/-- a chain of links -/
inductive Chn (E : Lk → Prop) : Nat → List Lk → Nat → Prop
  | nil {v : Nat} : Chn E v [] v
  | cons {x : Lk} {v : Nat} {p : List Lk} {u : Nat} : x.f = v → E x → Chn E x.t p u → Chn E v (x :: p) u
theorem Chn.mono {E E' : Lk → Prop} (h : ∀ x, E x → E' x) {v u : Nat} {p : List Lk} (hc : Chn E v p u) : Chn E' v p u := by
  induction hc with
  | nil => exact .nil
  | cons h1 h2 _ ih => exact .cons h1 (h _ h2) ih
theorem Chn.all {E : Lk → Prop} {v u : Nat} {p : List Lk} (hc : Chn E v p u) : ∀ x ∈ p, E x := by
  induction hc with
  | nil => simp
  | cons _ h2 _ ih => intro y hy; simp at hy; rcases hy with rfl | hy; exact h2; exact ih y hy
section
variable {n t : Nat} {ls : List Lk} {rm : Nat → Int} {D : List Int}
theorem nxt_some (hls : ∀ x ∈ ls, x.f < n ∧ x.t < n) (hD : IsDist n t (opn ls rm) D) {v : Nat} (hv : v < n) (hd : 0 < D.getD v 0) :
    ∃ x, nxt ls rm D v = some x ∧ x.f = v ∧ opn ls rm x ∧ D.getD x.t 0 = D.getD v 0 - 1 := by
  obtain ⟨y, hy, hyf, hyt⟩ := hD.step v hv hd
  cases e : nxt ls rm D v with
  | none =>
    unfold nxt at e
    rw [List.find?_eq_none] at e
    have := e y hy.1
    exact absurd (by rw [Bool.and_eq_true, Bool.and_eq_true, decide_eq_true_eq, decide_eq_true_eq, near, decide_eq_true_eq]; exact ⟨⟨hy.2, hyf⟩, hyt⟩) this
  | some x =>
    have hm := List.mem_of_find?_eq_some e
    have hp := List.find?_some e
    simp only [Bool.and_eq_true, decide_eq_true_eq, near] at hp
    exact ⟨x, rfl, hp.1.2, ⟨hm, hp.1.1⟩, hp.2⟩
theorem path_chn (hls : ∀ x ∈ ls, x.f < n ∧ x.t < n) (hD : IsDist n t (opn ls rm) D) : ∀ (k : Nat) (v : Nat), v < n → D.getD v 0 = (k : Int) →
    Chn (fun x => opn ls rm x ∧ D.getD x.t 0 = D.getD x.f 0 - 1 ∧ D.getD x.f 0 ≤ k) v (pathD (nxt ls rm D) D v) t := by
  intro k
  induction k with
  | zero =>
    intro v hv h
    have := hD.zero v hv h
    subst this
    rw [pathD_end (by omega)]
    exact .nil
  | succ k ih =>
    intro v hv h
    obtain ⟨x, hx, hf, ho, hn⟩ := nxt_some hls hD hv (by omega)
    rw [pathD_step hx (by omega) hn]
    have h2 := ih x.t (hls x ho.1).2 (by rw [hn, h]; omega)
    exact .cons hf ⟨ho, by rw [hf]; exact hn, by rw [hf]; omega⟩ (h2.mono (fun y hy => ⟨hy.1, hy.2.1, by have := hy.2.2; omega⟩))
theorem path_sorted (hls : ∀ x ∈ ls, x.f < n ∧ x.t < n) (hD : IsDist n t (opn ls rm) D) : ∀ (k : Nat) (v : Nat), v < n → D.getD v 0 = (k : Int) →
    (pathD (nxt ls rm D) D v).Pairwise (fun x y => D.getD y.f 0 < D.getD x.f 0) := by
  intro k
  induction k with
  | zero =>
    intro v hv h
    rw [pathD_end (by omega)]
    exact List.Pairwise.nil
  | succ k ih =>
    intro v hv h
    obtain ⟨x, hx, hf, ho, hn⟩ := nxt_some hls hD hv (by omega)
    rw [pathD_step hx (by omega) hn]
    have hxt := (hls x ho.1).2
    refine List.pairwise_cons.2 ⟨fun y hy => ?_, ih x.t hxt (by rw [hn, h]; omega)⟩
    have := ((path_chn hls hD k x.t hxt (by rw [hn, h]; omega)).all y hy).2.2
    rw [hf]; omega
end

/-! ### links of the residual graph -/
theorem rlFrom_iff {x : Lk} : ∀ (l : List Arc) (i : Nat), x ∈ rlFrom i l ↔ ∃ j a, l[j]? = some a ∧ (x = ⟨2 * (i + j), a.f.toNat, a.t.toNat⟩ ∨ x = ⟨2 * (i + j) + 1, a.t.toNat, a.f.toNat⟩)
  | [], i => by simp [rlFrom]
  | a :: l, i => by
    simp only [rlFrom, List.mem_cons]
    rw [rlFrom_iff l (i + 1)]
    constructor
    · rintro (rfl | rfl | ⟨j, b, h1, h2⟩)
      · exact ⟨0, a, rfl, .inl rfl⟩
      · exact ⟨0, a, rfl, .inr rfl⟩
      · refine ⟨j + 1, b, by simpa using h1, ?_⟩
        rw [show i + (j + 1) = i + 1 + j from by omega]; exact h2
    · rintro ⟨j, b, h1, h2⟩
      cases j with
      | zero => simp at h1; subst h1; rcases h2 with h2 | h2
                · exact .inl h2
                · exact .inr (.inl h2)
      | succ j =>
        refine .inr (.inr ⟨j, b, by simpa using h1, ?_⟩)
        rw [show i + 1 + j = i + (j + 1) from by omega]; exact h2
theorem rlinks_iff {l : List Arc} {x : Lk} : x ∈ rlinks l ↔ ∃ j a, l[j]? = some a ∧ (x = ⟨2 * j, a.f.toNat, a.t.toNat⟩ ∨ x = ⟨2 * j + 1, a.t.toNat, a.f.toNat⟩) := by
  unfold rlinks
  rw [rlFrom_iff]
  simp only [Nat.zero_add]
theorem rlFrom_get : ∀ (l : List Arc) (i j : Nat) (a : Arc), l[j]? = some a → (rlFrom i l)[2 * j]? = some ⟨2 * (i + j), a.f.toNat, a.t.toNat⟩ ∧ (rlFrom i l)[2 * j + 1]? = some ⟨2 * (i + j) + 1, a.t.toNat, a.f.toNat⟩
  | [], i, j, a, h => by simp at h
  | b :: l, i, j, a, h => by
    cases j with
    | zero => simp at h; subst h; simp [rlFrom]
    | succ j =>
      have := rlFrom_get l (i + 1) j a (by simpa using h)
      rw [show 2 * (j + 1) = 2 * j + 1 + 1 from by omega]
      simp only [rlFrom, List.getElem?_cons_succ]
      rw [show i + (j + 1) = i + 1 + j from by omega]
      exact this
theorem rlinks_get {l : List Arc} {k : Nat} (h : k < 2 * l.length) : ∃ x, (rlinks l)[k]? = some x ∧ x.k = k := by
  have hlt : k / 2 < l.length := by omega
  have := rlFrom_get l 0 (k / 2) l[k / 2] (List.getElem?_eq_getElem hlt)
  unfold rlinks
  by_cases hp : k % 2 = 0
  · refine ⟨_, by rw [show k = 2 * (k / 2) from by omega]; exact this.1, ?_⟩
    dsimp only; omega
  · refine ⟨_, by rw [show k = 2 * (k / 2) + 1 from by omega]; exact this.2, ?_⟩
    dsimp only; omega
theorem fval_set (v : Int) : ∀ (l : List Arc) (fl : List Int) (i : Nat) (a : Arc) (y : Int), l[i]? = some a → l.length = fl.length →
    fval v l (fl.set i y) = fval v l fl + ((if a.f = v then y - fl.getD i 0 else 0) - (if a.t = v then y - fl.getD i 0 else 0))
  | [], _, i, a, y, h, _ => by simp at h
  | b :: l, [], i, a, y, _, h => by simp at h
  | b :: l, x :: fl, i, a, y, h, hl => by
    cases i with
    | zero =>
      simp at h; subst h
      simp only [List.set_cons_zero, fval, List.getD_cons_zero]
      split <;> split <;> omega
    | succ i =>
      simp only [List.set_cons_succ, fval, List.getD_cons_succ]
      rw [fval_set v l fl i a y (by simpa using h) (by simpa using hl)]
      omega
theorem inCap_set : ∀ (l : List Arc) (fl : List Int) (i : Nat) (a : Arc) (y : Int), l[i]? = some a → inCap l fl = true → 0 ≤ y → y ≤ a.c → inCap l (fl.set i y) = true
  | [], _, i, a, y, h, _, _, _ => by simp at h
  | b :: l, [], i, a, y, _, h, _, _ => by simp [inCap]
  | b :: l, x :: fl, i, a, y, h, hc, h1, h2 => by
    simp only [inCap, Bool.and_eq_true, decide_eq_true_eq] at hc
    cases i with
    | zero =>
      simp at h; subst h
      simp only [List.set_cons_zero, inCap, Bool.and_eq_true, decide_eq_true_eq]
      exact ⟨⟨h1, h2⟩, hc.2⟩
    | succ i =>
      simp only [List.set_cons_succ, inCap, Bool.and_eq_true, decide_eq_true_eq]
      exact ⟨hc.1, inCap_set l fl i a y (by simpa using h) hc.2 h1 h2⟩
/-- a flow is changed along a link -/
def augR (room : Int) (fl : List Int) (x : Lk) : List Int := fl.set (x.k / 2) (if x.k % 2 = 0 then fl.getD (x.k / 2) 0 + room else fl.getD (x.k / 2) 0 - room)
def augAll (room : Int) (fl : List Int) (p : List Lk) : List Int := p.foldl (augR room) fl
theorem augR_len (room : Int) (fl : List Int) (x : Lk) : (augR room fl x).length = fl.length := by simp [augR]
theorem augAll_len (room : Int) : ∀ (p : List Lk) (fl : List Int), (augAll room fl p).length = fl.length
  | [], fl => rfl
  | x :: p, fl => by
    have := augAll_len room p (augR room fl x)
    rw [augR_len] at this
    exact this
theorem getD_set' {l : List Int} {i j : Nat} {x : Int} (h : i ≠ j) : (l.set i x).getD j 0 = l.getD j 0 := by
  rw [List.getD_eq_getElem?_getD, List.getElem?_set_ne h, ← List.getD_eq_getElem?_getD]
/-- one step: what stays true -/
theorem augR_ok {n : Nat} {l : List Arc} {fl : List Int} {x : Lk} {room : Int} (hok : ∀ a ∈ l, okArc n a = true) (hl : l.length = fl.length) (hc : inCap l fl = true) (hx : x ∈ rlinks l) (h0 : 0 ≤ room) (hr : room ≤ rmR l fl x.k) :
    inCap l (augR room fl x) = true ∧ (∀ v : Nat, fval v l (augR room fl x) = fval v l fl + ((if x.f = v then room else 0) - (if x.t = v then room else 0))) ∧ ∀ k, k / 2 ≠ x.k / 2 → rmR l (augR room fl x) k = rmR l fl k := by
  obtain ⟨j, a, ha, hxe⟩ := rlinks_iff.1 hx
  have hjl : j < l.length := (List.getElem?_eq_some_iff.1 ha).1
  have hfj : fl[j]? = some (fl.getD j 0) := by simp [List.getD_eq_getElem?_getD, show j < fl.length by omega]
  have hlj : l.getD j default = a := by simp [List.getD_eq_getElem?_getD, ha]
  have hin := inCap_get l fl hc j a _ ha hfj
  obtain ⟨g1, g2, g3, g4, g5, g6, g7⟩ := okArc_iff.1 (hok a (List.mem_of_getElem? ha))
  have hrest : ∀ k, k / 2 ≠ x.k / 2 → rmR l (augR room fl x) k = rmR l fl k := fun k hk => by
    unfold rmR augR
    rw [getD_set' (Ne.symm hk)]
  refine ⟨?_, ?_, hrest⟩
  · rcases hxe with rfl | rfl
    · unfold rmR at hr
      unfold augR
      dsimp only at hr ⊢
      rw [show 2 * j / 2 = j from by omega, if_pos (by omega), hlj] at hr
      rw [show 2 * j / 2 = j from by omega, if_pos (by omega)]
      exact inCap_set l fl j a _ ha hc (by omega) (by omega)
    · unfold rmR at hr
      unfold augR
      dsimp only at hr ⊢
      rw [show (2 * j + 1) / 2 = j from by omega, if_neg (by omega)] at hr
      rw [show (2 * j + 1) / 2 = j from by omega, if_neg (by omega)]
      exact inCap_set l fl j a _ ha hc (by omega) (by omega)
  · intro v
    rcases hxe with rfl | rfl
    · unfold augR
      dsimp only
      rw [show 2 * j / 2 = j from by omega, if_pos (by omega), fval_set v l fl j a _ ha hl]
      have e1 : (a.f = (v : Int)) ↔ (a.f.toNat = v) := by omega
      have e2 : (a.t = (v : Int)) ↔ (a.t.toNat = v) := by omega
      simp only [e1, e2]
      split <;> split <;> omega
    · unfold augR
      dsimp only
      rw [show (2 * j + 1) / 2 = j from by omega, if_neg (by omega), fval_set v l fl j a _ ha hl]
      have e1 : (a.f = (v : Int)) ↔ (a.f.toNat = v) := by omega
      have e2 : (a.t = (v : Int)) ↔ (a.t.toNat = v) := by omega
      simp only [e1, e2]
      split <;> split <;> omega
theorem augAll_ok {n : Nat} {l : List Arc} {room : Int} (hok : ∀ a ∈ l, okArc n a = true) (h0 : 0 ≤ room) {E : Lk → Prop} (hE : ∀ x, E x → x ∈ rlinks l) {u w : Nat} {p : List Lk} (hp : Chn E u p w) :
    ∀ (fl : List Int), l.length = fl.length → inCap l fl = true → p.Pairwise (fun x y => x.k / 2 ≠ y.k / 2) → (∀ x ∈ p, room ≤ rmR l fl x.k) →
    inCap l (augAll room fl p) = true ∧ ∀ v : Nat, fval v l (augAll room fl p) = fval v l fl + ((if u = v then room else 0) - (if w = v then room else 0)) := by
  induction hp with
  | nil => intro fl _ hc _ _; exact ⟨hc, fun v => by simp [augAll]⟩
  | @cons x u p w hf hx _ ih =>
    intro fl hl hc hpw hr
    rw [List.pairwise_cons] at hpw
    obtain ⟨s1, s2, s3⟩ := augR_ok hok hl hc (hE x hx) h0 (hr x (by simp))
    obtain ⟨r1, r2⟩ := ih (augR room fl x) (by rw [augR_len]; exact hl) s1 hpw.2 (fun y hy => by rw [s3 y.k (Ne.symm (hpw.1 y hy))]; exact hr y (by simp [hy]))
    refine ⟨r1, fun v => ?_⟩
    have := r2 v
    rw [s2 v] at this
    show fval v l (augAll room (augR room fl x) p) = _
    rw [this, hf]
    split <;> split <;> split <;> omega
theorem leastR_le (rm : Nat → Int) : ∀ (p : List Lk) (m : Int), p.foldl (fun m x => min m (rm x.k)) m ≤ m ∧ ∀ x ∈ p, p.foldl (fun m x => min m (rm x.k)) m ≤ rm x.k
  | [], m => by simp
  | y :: p, m => by
    have ih := leastR_le rm p (min m (rm y.k))
    refine ⟨by simp only [List.foldl_cons]; omega, fun x hx => ?_⟩
    simp only [List.foldl_cons]
    simp at hx
    rcases hx with rfl | hx
    · omega
    · exact ih.2 x hx
theorem leastR_pos (rm : Nat → Int) : ∀ (p : List Lk) (m : Int), 0 < m → (∀ x ∈ p, 0 < rm x.k) → 0 < p.foldl (fun m x => min m (rm x.k)) m
  | [], m, h, _ => by simpa using h
  | y :: p, m, h, hp => by
    simp only [List.foldl_cons]
    exact leastR_pos rm p _ (by have := hp y (by simp); omega) (fun x hx => hp x (by simp [hx]))
/-- a flow -/
structure Flw (n : Nat) (l : List Arc) (s t : Nat) (fl : List Int) : Prop where
  len : l.length = fl.length
  cap : inCap l fl = true
  bal : ∀ v : Nat, v < n → v ≠ s → v ≠ t → fval v l fl = 0
section
variable {n s t : Nat} {l : List Arc}
theorem rl_lt (hok : ∀ a ∈ l, okArc n a = true) : ∀ x ∈ rlinks l, x.f < n ∧ x.t < n := fun _ hx => ⟨(rlinks_mem hok hx).1, (rlinks_mem hok hx).2.1⟩
abbrev rE (l : List Arc) (fl : List Int) : Lk → Prop := opn (rlinks l) (rmR l fl)
abbrev rP (l : List Arc) (fl : List Int) (D : List Int) (s : Nat) : List Lk := pathD (nxt (rlinks l) (rmR l fl) D) D s
/-- the next flow -/
abbrev rNext (l : List Arc) (fl : List Int) (D : List Int) (s : Nat) : List Int := augAll (leastR (rmR l fl) (rP l fl D s)) fl (rP l fl D s)
theorem rP_arcs (hok : ∀ a ∈ l, okArc n a = true) (hs : s < n) {fl D : List Int} (hD : IsDist n t (rE l fl) D) (h0 : 0 ≤ D.getD s 0) : (rP l fl D s).Pairwise (fun x y => x.k / 2 ≠ y.k / 2) := by
  obtain ⟨k, hk⟩ := Int.eq_ofNat_of_zero_le h0
  have hp := path_sorted (rl_lt hok) hD k s hs hk
  have hc := (path_chn (rl_lt hok) hD k s hs hk).all
  refine List.Pairwise.imp_of_mem (fun {x y} hx hy hxy e => ?_) hp
  obtain ⟨i, a, ha, hxe⟩ := rlinks_iff.1 (hc x hx).1.1
  obtain ⟨j, b, hb, hye⟩ := rlinks_iff.1 (hc y hy).1.1
  have dx := (hc x hx).2.1
  have dy := (hc y hy).2.1
  have hij : i = j := by rcases hxe with rfl | rfl <;> rcases hye with rfl | rfl <;> (dsimp only at e; omega)
  subst hij
  rw [ha] at hb
  obtain rfl := Option.some.inj hb
  rcases hxe with rfl | rfl <;> rcases hye with rfl | rfl <;> (dsimp only at hxy dx dy; omega)
theorem rNext_ok (hok : ∀ a ∈ l, okArc n a = true) (hs : s < n) (hst : s ≠ t) {fl D : List Int} (hf : Flw n l s t fl) (hD : IsDist n t (rE l fl) D) (h0 : 0 ≤ D.getD s 0) :
    Flw n l s t (rNext l fl D s) ∧ 0 < leastR (rmR l fl) (rP l fl D s) ∧ fval s l (rNext l fl D s) = fval s l fl + leastR (rmR l fl) (rP l fl D s) := by
  obtain ⟨k, hk⟩ := Int.eq_ofNat_of_zero_le h0
  have hch := path_chn (rl_lt hok) hD k s hs hk
  have hpos : 0 < leastR (rmR l fl) (rP l fl D s) := leastR_pos _ _ _ (by omega) (fun x hx => (hch.all x hx).1.2)
  obtain ⟨r1, r2⟩ := augAll_ok hok (Int.le_of_lt hpos) (E := fun x => rE l fl x ∧ D.getD x.t 0 = D.getD x.f 0 - 1 ∧ D.getD x.f 0 ≤ k) (fun x hx => hx.1.1) hch fl hf.len hf.cap (rP_arcs hok hs hD h0) (fun x hx => (leastR_le _ _ _).2 x hx)
  refine ⟨⟨by rw [augAll_len]; exact hf.len, r1, fun v hv h1 h2 => ?_⟩, hpos, ?_⟩
  · rw [r2 v, if_neg (Ne.symm h1), if_neg (Ne.symm h2), hf.bal v hv h1 h2]; rfl
  · rw [r2 s, if_pos rfl, if_neg (Ne.symm hst)]; omega
end
/-- the run of the search for a maximum flow -/
inductive RunR (n : Nat) (l : List Arc) (s t : Nat) : List Int → List Int → Prop
  | done {fl D : List Int} : IsDist n t (rE l fl) D → D.getD s 0 < 0 → RunR n l s t fl fl
  | step {fl D F : List Int} : IsDist n t (rE l fl) D → 0 ≤ D.getD s 0 → RunR n l s t (rNext l fl D s) F → RunR n l s t fl F
theorem RunR.uniq {n s t : Nat} {l : List Arc} (hok : ∀ a ∈ l, okArc n a = true) {fl F G : List Int} (h1 : RunR n l s t fl F) (h2 : RunR n l s t fl G) : F = G := by
  have hE : ∀ fl x, rE l fl x → x.f < n ∧ x.t < n := fun fl x hx => rl_lt hok x hx.1
  induction h1 generalizing G with
  | done hD hn =>
    cases h2 with
    | done => rfl
    | step hD2 h0 _ => rw [hD.uniq (hE _) hD2] at hn; omega
  | step hD h0 _ ih =>
    cases h2 with
    | done hD2 hn => rw [hD.uniq (hE _) hD2] at h0; omega
    | step hD2 _ hr => rw [hD.uniq (hE _) hD2] at ih; exact ih hr
theorem RunR.flw {n s t : Nat} {l : List Arc} (hok : ∀ a ∈ l, okArc n a = true) (hs : s < n) (hst : s ≠ t) {fl F : List Int} (h : RunR n l s t fl F) : Flw n l s t fl → Flw n l s t F ∧ ∃ D, IsDist n t (rE l F) D ∧ D.getD s 0 < 0 := by
  induction h with
  | done hD hn => intro hf; exact ⟨hf, _, hD, hn⟩
  | step hD h0 _ ih => intro hf; exact ih (rNext_ok hok hs hst hf hD h0).1
theorem fval_zeros (v : Int) : ∀ (l : List Arc), fval v l (List.replicate l.length 0) = 0
  | [] => rfl
  | a :: l => by simp only [List.length_cons, List.replicate_succ, fval]; rw [fval_zeros v l]; split <;> split <;> rfl
theorem inCap_zeros {n : Nat} : ∀ (l : List Arc), (∀ a ∈ l, okArc n a = true) → inCap l (List.replicate l.length 0) = true
  | [], _ => rfl
  | a :: l, h => by
    have ha := okArc_iff.1 (h a (by simp))
    simp only [List.length_cons, List.replicate_succ, inCap, Bool.and_eq_true, decide_eq_true_eq]
    exact ⟨⟨by omega, by omega⟩, inCap_zeros l (fun b hb => h b (by simp [hb]))⟩
theorem flw_zeros {n s t : Nat} {l : List Arc} (hok : ∀ a ∈ l, okArc n a = true) : Flw n l s t (List.replicate l.length 0) := ⟨by simp, inCap_zeros l hok, fun v _ _ _ => fval_zeros v l⟩
end Go.Flow
namespace Go.Flow
theorem opens_eq {n : Nat} {ls : List Lk} (hls : ∀ x ∈ ls, x.f < n ∧ x.t < n) (rm : Nat → Int) : (fun x => x.t < n ∧ x ∈ insOf ls x.t ∧ 0 < rm x.k) = opn ls rm := by
  funext x
  apply propext
  unfold opn insOf
  rw [List.mem_filter]
  constructor
  · rintro ⟨_, ⟨h, _⟩, h2⟩; exact ⟨h, h2⟩
  · rintro ⟨h, h2⟩; exact ⟨(hls x h).2, ⟨h, by simp⟩, h2⟩
theorem nxt_eq (ls : List Lk) (rm : Nat → Int) (D : List Int) : (fun v => ((outsOf ls v).filter (fun x => decide (0 < rm x.k))).find? (near D v)) = nxt ls rm D := by
  funext v
  unfold nxt outsOf
  rw [find_filter, find_filter]
  congr 1
  funext x
  rw [← Bool.and_assoc, Bool.and_comm (decide (x.f = v))]
theorem Chn.take {E : Lk → Prop} {v u : Nat} {p : List Lk} (hc : Chn E v p u) : ∀ i, ∃ w, Chn E v (p.take i) w := by
  induction hc with
  | nil => intro i; exact ⟨_, by simpa using Chn.nil⟩
  | cons h1 h2 _ ih =>
    intro i
    cases i with
    | zero => exact ⟨_, by simpa using Chn.nil⟩
    | succ i => obtain ⟨w, hw⟩ := ih i; exact ⟨w, .cons h1 h2 hw⟩
theorem rTake_cap {n s t : Nat} {l : List Arc} (hok : ∀ a ∈ l, okArc n a = true) (hs : s < n) {fl D : List Int} (hf : Flw n l s t fl) (hD : IsDist n t (rE l fl) D) (h0 : 0 ≤ D.getD s 0) (i : Nat) :
    inCap l (augAll (leastR (rmR l fl) (rP l fl D s)) fl ((rP l fl D s).take i)) = true := by
  obtain ⟨k, hk⟩ := Int.eq_ofNat_of_zero_le h0
  have hch := path_chn (rl_lt hok) hD k s hs hk
  have hpos : 0 < leastR (rmR l fl) (rP l fl D s) := leastR_pos _ _ _ (by omega) (fun x hx => (hch.all x hx).1.2)
  obtain ⟨w, hw⟩ := hch.take i
  exact (augAll_ok hok (Int.le_of_lt hpos) (E := fun x => rE l fl x ∧ D.getD x.t 0 = D.getD x.f 0 - 1 ∧ D.getD x.f 0 ≤ k) (fun x hx => hx.1.1) hw fl hf.len hf.cap ((rP_arcs hok hs hD h0).sublist (List.take_sublist _ _)) (fun x hx => (leastR_le _ _ _).2 x (List.mem_of_mem_take hx))).1
theorem augAll_snoc (room : Int) (fl : List Int) (p : List Lk) (x : Lk) : augAll room fl (p ++ [x]) = augR room (augAll room fl p) x := by simp [augAll]
theorem path_len {n t : Nat} {ls : List Lk} {rm : Nat → Int} {D : List Int} (hls : ∀ x ∈ ls, x.f < n ∧ x.t < n) (hD : IsDist n t (opn ls rm) D) : ∀ (k : Nat) (v : Nat), v < n → D.getD v 0 = (k : Int) → (pathD (nxt ls rm D) D v).length = k := by
  intro k
  induction k with
  | zero => intro v hv h; rw [pathD_end (by omega)]; rfl
  | succ k ih =>
    intro v hv h
    obtain ⟨x, hx, hf, ho, hn⟩ := nxt_some hls hD hv (by omega)
    rw [pathD_step hx (by omega) hn, List.length_cons, ih x.t (hls x ho.1).2 (by rw [hn, h]; omega)]
end Go.Flow
