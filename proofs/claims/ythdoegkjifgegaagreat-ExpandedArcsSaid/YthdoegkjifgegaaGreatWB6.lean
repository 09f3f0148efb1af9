/- Texts of this proof, one after the other; no conditions. -/
import Derived.WideKeyRuns
import Derived.Test.YthdoegkjifgegaaGreatWB5
import Derived.Test.YthdoegkjifgegaaGreatWB3
import Derived.Test.YthdoegkjifgegaaGreatWB1
import Derived.Test.YthdoegkjifgegaaGreatWB0
import Derived.Test.YthdoegkjifgegaaGreatWB2
import Derived.Test.YthdoegkjifgegaaGreatWB4
set_option linter.all false
/- Time-expanded networks. No program in sight. No conditions. -/
namespace Go.Step
open Go.Flow (capOf chk okArc okArc_iff)
abbrev Arc := Go.Flow.Arc
/-- what holds of valid tables and a valid demand -/
structure VOk (qs : List Int) (cs : List Ct) (bs : List Bk) (hs : List Hd) (d : Dm) : Prop where
  ct : ∀ c ∈ cs, (0 ≤ c.f ∧ c.f < qs.length) ∧ (0 ≤ c.t ∧ c.t < qs.length) ∧ (0 ≤ c.s ∧ c.s < c.e ∧ c.e ≤ 1099511627776) ∧ (1 ≤ c.r ∧ c.r ≤ 1000) ∧ (1 ≤ c.g ∧ c.g ≤ 1048576)
  nb : bs.length ≤ 512
  bk : firstE (bkE cs bs) bs.length = 0
  hd : ∀ x ∈ hs, okHd qs.length x
  nh : hs.length ≤ 512
  fit : fitB qs hs = true
  nq : 1 ≤ qs.length ∧ qs.length ≤ 16
  quo : ∀ (j : Nat) (q : Int), qs[j]? = some q → 0 ≤ q ∧ q ≤ 1073741824
  dm : okDm qs.length d
  nc : cs.length ≤ 64
def wd (d : Dm) : Int := d.e - d.r + 1
/-- the number of a node at a time -/
def vtx (d : Dm) (n t : Int) : Int := n * wd d + (t - d.r)
theorem vtx_div {d : Dm} {n t : Int} (h1 : d.r ≤ t) (h2 : t ≤ d.e) : vtx d n t / wd d = n := by
  unfold vtx
  have hw : wd d ≠ 0 := by unfold wd; omega
  rw [Int.add_comm, Int.add_mul_ediv_right _ _ hw, Int.ediv_eq_zero_of_lt (by omega) (by unfold wd; omega), Int.zero_add]
theorem vtx_mod {d : Dm} {n t : Int} (h1 : d.r ≤ t) (h2 : t ≤ d.e) : vtx d n t % wd d = t - d.r := by
  unfold vtx
  rw [Int.add_comm, Int.add_mul_emod_self_right, Int.emod_eq_of_lt (by omega) (by unfold wd; omega)]
theorem vtx_inj {d : Dm} {n t m u : Int} (h1 : d.r ≤ t) (h2 : t ≤ d.e) (h3 : d.r ≤ u) (h4 : u ≤ d.e) (h : vtx d n t = vtx d m u) : n = m ∧ t = u := by
  have a := vtx_div (n := n) h1 h2
  have b := vtx_mod (n := n) h1 h2
  rw [h] at a b
  rw [vtx_div h3 h4] at a
  rw [vtx_mod h3 h4] at b
  omega
theorem vtx_next (d : Dm) (n t : Int) : vtx d n (t + 1) = vtx d n t + 1 := by unfold vtx; omega
theorem vtx_lt {d : Dm} {n t : Int} {N : Nat} (h1 : 0 ≤ n) (h2 : n < N) (h3 : d.r ≤ t) (h4 : t ≤ d.e) : 0 ≤ vtx d n t ∧ vtx d n t < N * wd d := by
  have hw : 0 ≤ wd d := by unfold wd; omega
  have a := Int.mul_nonneg h1 hw
  have b := Int.mul_le_mul_of_nonneg_right (show n + 1 ≤ (N : Int) by omega) hw
  rw [Int.add_mul, Int.one_mul] at b
  unfold vtx
  have e : wd d = d.e - d.r + 1 := rfl
  omega
/-- every vertex is a node at a time -/
theorem vtx_of {d : Dm} {v : Int} {N : Nat} (hw : 0 < wd d) (h1 : 0 ≤ v) (h2 : v < N * wd d) : (0 ≤ v / wd d ∧ v / wd d < N) ∧ (d.r ≤ d.r + v % wd d ∧ d.r + v % wd d ≤ d.e) ∧ vtx d (v / wd d) (d.r + v % wd d) = v := by
  have a := Int.ediv_nonneg h1 (Int.le_of_lt hw)
  have b := Int.ediv_lt_of_lt_mul hw h2
  have c := Int.emod_nonneg v (Int.ne_of_gt hw)
  have e := Int.emod_lt_of_pos v hw
  have f := Int.mul_ediv_add_emod v (wd d)
  refine ⟨⟨a, b⟩, ⟨by omega, by unfold wd at *; omega⟩, ?_⟩
  unfold vtx
  rw [Int.mul_comm]
  omega
/-- an arc with its contact (-1: bytes wait) and its time -/
structure EA where
  a : Arc
  c : Int
  t : Int
deriving DecidableEq
def waitN (qs : List Int) (hs : List Hd) (d : Dm) (n : Int) : List EA := (rngI d.r d.e).map (fun t => ⟨⟨vtx d n t, vtx d n (t + 1), roomT qs hs d n t⟩, -1, t⟩)
def waitA (qs : List Int) (hs : List Hd) (d : Dm) : Nat → List EA
  | 0 => []
  | n + 1 => waitA qs hs d n ++ waitN qs hs d n
def conE (d : Dm) (c : Ct) (i t : Int) : EA := ⟨⟨vtx d c.f t, vtx d c.t (t + 1 + c.g), c.r⟩, i, t⟩
def conN (cs : List Ct) (bs : List Bk) (d : Dm) (i : Nat) : List EA := match cs[i]? with
  | none => []
  | some c => (tickL d.r d.e c.g (freeC cs bs i)).map (conE d c i)
def conA (cs : List Ct) (bs : List Bk) (d : Dm) : Nat → List EA
  | 0 => []
  | i + 1 => conA cs bs d i ++ conN cs bs d i
/-- the arcs of the network, in their order -/
def arcsE (qs : List Int) (cs : List Ct) (bs : List Bk) (hs : List Hd) (d : Dm) : List EA := waitA qs hs d qs.length ++ conA cs bs d cs.length
def arcsG (qs : List Int) (cs : List Ct) (bs : List Bk) (hs : List Hd) (d : Dm) : List Arc := (arcsE qs cs bs hs d).map (fun x => x.a)
theorem mem_waitA {qs : List Int} {hs : List Hd} {d : Dm} {x : EA} : ∀ {m : Nat}, x ∈ waitA qs hs d m ↔ ∃ n : Nat, n < m ∧ ∃ t, d.r ≤ t ∧ t < d.e ∧ x = ⟨⟨vtx d n t, vtx d n (t + 1), roomT qs hs d n t⟩, -1, t⟩
  | 0 => by simp [waitA]
  | m + 1 => by
    unfold waitA
    rw [List.mem_append, mem_waitA (m := m)]
    unfold waitN
    rw [List.mem_map]
    constructor
    · rintro (⟨n, h1, h2⟩ | ⟨t, h1, rfl⟩)
      · exact ⟨n, by omega, h2⟩
      · rw [mem_rngI] at h1
        exact ⟨m, by omega, t, h1.1, h1.2, rfl⟩
    · rintro ⟨n, h1, t, h2, h3, rfl⟩
      by_cases h : n < m
      · exact .inl ⟨n, h, t, h2, h3, rfl⟩
      · obtain rfl : n = m := by omega
        exact .inr ⟨t, by rw [mem_rngI]; exact ⟨h2, h3⟩, rfl⟩
theorem mem_conA {cs : List Ct} {bs : List Bk} {d : Dm} {x : EA} : ∀ {m : Nat}, x ∈ conA cs bs d m ↔ ∃ i : Nat, i < m ∧ ∃ c t, cs[i]? = some c ∧ memI (freeC cs bs i) t = true ∧ d.r ≤ t ∧ t + c.g < d.e ∧ x = conE d c i t
  | 0 => by simp [conA]
  | m + 1 => by
    unfold conA
    rw [List.mem_append, mem_conA (m := m)]
    have key : x ∈ conN cs bs d m ↔ ∃ c t, cs[m]? = some c ∧ memI (freeC cs bs m) t = true ∧ d.r ≤ t ∧ t + c.g < d.e ∧ x = conE d c m t := by
      unfold conN
      cases e : cs[m]? with
      | none => simp
      | some c =>
        simp only [List.mem_map, mem_tickL, Option.some.injEq]
        constructor
        · rintro ⟨t, ⟨h1, h2, h3⟩, rfl⟩
          exact ⟨c, t, rfl, h1, h2, h3, rfl⟩
        · rintro ⟨c', t, rfl, h1, h2, h3, rfl⟩
          exact ⟨t, ⟨h1, h2, h3⟩, rfl⟩
    rw [key]
    constructor
    · rintro (⟨i, h1, h2⟩ | h)
      · exact ⟨i, by omega, h2⟩
      · exact ⟨m, by omega, h⟩
    · rintro ⟨i, h1, h2⟩
      by_cases h : i < m
      · exact .inl ⟨i, h, h2⟩
      · obtain rfl : i = m := by omega
        exact .inr h2
section
variable {qs : List Int} {cs : List Ct} {bs : List Bk} {hs : List Hd} {d : Dm}
theorem VOk.room (h : VOk qs cs bs hs d) (n : Nat) (hn : n < qs.length) (t : Int) : 0 ≤ roomT qs hs d n t ∧ roomT qs hs d n t ≤ 1099511627776 := by
  refine ⟨room_nonneg h.quo h.hd h.fit d n hn t, ?_⟩
  unfold roomT
  split
  · omega
  have h1 := stored_bd (n := (n : Int)) (t := t) h.hd
  have hx := List.getElem?_eq_getElem hn
  have hq := h.quo n _ hx
  rw [Int.toNat_natCast, List.getD_eq_getElem?_getD, hx, Option.getD_some]
  omega
theorem VOk.free (h : VOk qs cs bs hs d) {i : Nat} {c : Ct} (hc : cs[i]? = some c) : NormI (freeC cs bs i) ∧ (∀ z ∈ freeC cs bs i, c.s ≤ z.1 ∧ z.2 ≤ c.e) ∧ ∀ t, memI (freeC cs bs i) t = (decide (c.s ≤ t ∧ t < c.e) && !(bookedB bs i t)) := freeC_ok h.bk hc
/-- what an arc is -/
inductive ArcIs (qs : List Int) (cs : List Ct) (bs : List Bk) (hs : List Hd) (d : Dm) : EA → Prop
  | wait {n : Nat} {t : Int} : n < qs.length → d.r ≤ t → t < d.e → ArcIs qs cs bs hs d ⟨⟨vtx d n t, vtx d n (t + 1), roomT qs hs d n t⟩, -1, t⟩
  | con {i : Nat} {c : Ct} {t : Int} : cs[i]? = some c → d.r ≤ t → c.s ≤ t → t < c.e → t + 1 + c.g ≤ d.e → bookedB bs i t = false → ArcIs qs cs bs hs d (conE d c i t)
theorem VOk.arc (h : VOk qs cs bs hs d) {x : EA} : x ∈ arcsE qs cs bs hs d ↔ ArcIs qs cs bs hs d x := by
  unfold arcsE
  rw [List.mem_append, mem_waitA, mem_conA]
  constructor
  · rintro (⟨n, h1, t, h2, h3, rfl⟩ | ⟨i, h1, c, t, hc, hm, h2, h3, rfl⟩)
    · exact .wait h1 h2 h3
    · rw [(h.free hc).2.2 t, Bool.and_eq_true, decide_eq_true_eq, Bool.not_eq_true'] at hm
      exact .con hc h2 hm.1.1 hm.1.2 (by omega) hm.2
  · rintro (⟨h1, h2, h3⟩ | ⟨hc, h1, h2, h3, h4, h5⟩)
    · exact .inl ⟨_, h1, _, h2, h3, rfl⟩
    · refine .inr ⟨_, (List.getElem?_eq_some_iff.1 hc).1, _, _, hc, ?_, h1, by omega, rfl⟩
      rw [(h.free hc).2.2, h5, decide_eq_true ⟨h2, h3⟩]
      rfl
/-- the number of vertices -/
def vsN (qs : List Int) (d : Dm) : Int := qs.length * wd d
theorem VOk.wd (h : VOk qs cs bs hs d) : 2 ≤ Go.Step.wd d ∧ Go.Step.wd d ≤ 101 := by
  have := h.dm.2.2.2.2
  unfold Go.Step.wd
  omega
theorem VOk.vs (h : VOk qs cs bs hs d) : 0 ≤ vsN qs d ∧ vsN qs d ≤ 1616 := by
  have h1 := h.wd
  have h2 := h.nq
  unfold vsN
  refine ⟨Int.mul_nonneg (by omega) (by omega), ?_⟩
  exact Int.le_trans (Int.mul_le_mul (show ((qs.length : Nat) : Int) ≤ 16 by omega) h1.2 (by omega) (by omega)) (by omega)
theorem VOk.ok (h : VOk qs cs bs hs d) : ∀ a ∈ arcsG qs cs bs hs d, okArc (vsN qs d) a = true := fun a ha => by
  obtain ⟨x, hx, rfl⟩ := List.mem_map.1 ha
  have hw := h.wd
  unfold wd at hw
  rw [okArc_iff]
  cases h.arc.1 hx with
  | @wait n t h1 h2 h3 =>
    have a := vtx_lt (d := d) (n := n) (t := t) (N := qs.length) (by omega) (by omega) h2 (by omega)
    have b := vtx_lt (d := d) (n := n) (t := t + 1) (N := qs.length) (by omega) (by omega) (by omega) (by omega)
    have c := vtx_next d n t
    have r := h.room n h1 t
    unfold vsN
    dsimp only
    omega
  | @con i c t hc h1 h2 h3 h4 h5 =>
    have k := h.ct c (List.mem_of_getElem? hc)
    have a := vtx_lt (d := d) (n := c.f) (t := t) (N := qs.length) k.1.1 k.1.2 h1 (by omega)
    have b := vtx_lt (d := d) (n := c.t) (t := t + 1 + c.g) (N := qs.length) k.2.1.1 k.2.1.2 (by omega) h4
    have ne : vtx d c.f t ≠ vtx d c.t (t + 1 + c.g) := fun e => by
      have := vtx_inj h1 (by omega) (by omega) h4 e
      omega
    unfold vsN conE
    dsimp only
    omega
theorem waitN_len (qs : List Int) (hs : List Hd) (d : Dm) (n : Int) : (waitN qs hs d n).length = (d.e - d.r).toNat := by unfold waitN; rw [List.length_map, rngI_len]
theorem waitA_len (qs : List Int) (hs : List Hd) (d : Dm) : ∀ m, (waitA qs hs d m).length = m * (d.e - d.r).toNat
  | 0 => by simp [waitA]
  | m + 1 => by unfold waitA; rw [List.length_append, waitA_len qs hs d m, waitN_len, Nat.add_mul, Nat.one_mul]
/-- the same ticks, out of all times -/
theorem tickL_all {r e g : Int} {l : List (Int × Int)} (h : NormI l) (hg : 0 ≤ g) : tickL r e g l = (rngI r e).filter (fun t => memI l t && decide (t + g < e)) := by
  refine asc_ext (tickL_asc h) ((rngI_asc _ _).filter _) (fun t => ?_)
  rw [mem_tickL, List.mem_filter, mem_rngI, Bool.and_eq_true, decide_eq_true_eq]
  constructor
  · rintro ⟨h1, h2, h3⟩
    exact ⟨by omega, h1, h3⟩
  · rintro ⟨h1, h2, h3⟩
    exact ⟨h2, by omega, h3⟩
theorem VOk.conN_len (h : VOk qs cs bs hs d) (i : Nat) : (conN cs bs d i).length ≤ (d.e - d.r).toNat := by
  unfold conN
  cases e : cs[i]? with
  | none => simp
  | some c =>
    have k := h.ct c (List.mem_of_getElem? e)
    simp only [List.length_map]
    rw [tickL_all (h.free e).1 (by omega)]
    exact Nat.le_trans (List.length_filter_le _ _) (by rw [rngI_len]; exact Nat.le_refl _)
theorem VOk.conA_len (h : VOk qs cs bs hs d) : ∀ m, (conA cs bs d m).length ≤ m * (d.e - d.r).toNat
  | 0 => by simp [conA]
  | m + 1 => by
    have h1 := h.conA_len m
    have h2 := h.conN_len m
    unfold conA
    rw [List.length_append, Nat.add_mul, Nat.one_mul]
    omega
theorem VOk.len (h : VOk qs cs bs hs d) : (arcsE qs cs bs hs d).length ≤ 8000 := by
  have h1 := waitA_len qs hs d qs.length
  have h2 := h.conA_len cs.length
  have h3 := h.dm.2.2.2.2
  have h4 : (d.e - d.r).toNat ≤ 100 := by omega
  have a := Nat.mul_le_mul h.nq.2 h4
  have b := Nat.mul_le_mul h.nc h4
  unfold arcsE
  rw [List.length_append]
  omega
theorem VOk.chk (h : VOk qs cs bs hs d) : chk (vsN qs d) (arcsG qs cs bs hs d) = 0 := by
  have h1 := h.vs
  have h2 := h.len
  unfold Go.Flow.chk
  rw [if_neg (by omega), if_neg (by unfold arcsG; rw [List.length_map]; omega), if_pos (List.all_eq_true.2 h.ok)]
theorem VOk.ends (h : VOk qs cs bs hs d) : Go.Flow.okEnds (vsN qs d) (vtx d d.s d.r) (vtx d d.d d.e) = true := by
  have hw := h.wd
  unfold wd at hw
  obtain ⟨h1, h2, h3, _, h4⟩ := h.dm
  have a := vtx_lt (d := d) (n := d.s) (t := d.r) (N := qs.length) h1.1 h1.2 (by omega) (by omega)
  have b := vtx_lt (d := d) (n := d.d) (t := d.e) (N := qs.length) h2.1 h2.2 (by omega) (by omega)
  rw [Go.Flow.okEnds_iff]
  unfold vsN
  refine ⟨a.1, a.2, b.1, b.2, fun e => ?_⟩
  have := vtx_inj (by omega) (by omega) (by omega) (by omega) e
  omega
/-! sums over lists -/
def lsum {α : Type} (f : α → Int) : List α → Int
  | [] => 0
  | x :: l => f x + lsum f l
theorem lsum_append {α : Type} (f : α → Int) (a b : List α) : lsum f (a ++ b) = lsum f a + lsum f b := by
  induction a with
  | nil => simp [lsum]
  | cons x a ih => simp only [List.cons_append, lsum, ih]; omega
theorem lsum_map {α β : Type} (f : β → Int) (g : α → β) (l : List α) : lsum f (l.map g) = lsum (fun x => f (g x)) l := by
  induction l with
  | nil => rfl
  | cons x l ih => simp only [List.map_cons, lsum, ih]
theorem lsum_congr {α : Type} {f g : α → Int} {l : List α} (h : ∀ x ∈ l, f x = g x) : lsum f l = lsum g l := by
  induction l with
  | nil => rfl
  | cons x l ih => simp only [lsum]; rw [h x (by simp), ih (fun y hy => h y (by simp [hy]))]
theorem lsum_filter {α : Type} (f : α → Int) (p : α → Bool) (l : List α) : lsum f (l.filter p) = lsum (fun x => if p x = true then f x else 0) l := by
  induction l with
  | nil => rfl
  | cons x l ih =>
    rw [List.filter_cons]
    by_cases h : p x = true
    · rw [if_pos h]; simp only [lsum, ih, if_pos h]
    · rw [if_neg h]; simp only [lsum, ih, if_neg h]; omega
theorem lsum_range (f : Int → Int) (a : Int) : ∀ m : Nat, lsum f ((List.range m).map (fun k : Nat => a + k)) = sumT f a m
  | 0 => rfl
  | m + 1 => by
    rw [List.range_succ, List.map_append, lsum_append, lsum_range f a m]
    simp [lsum, sumT]
theorem lsum_rngI (f : Int → Int) (a b : Int) : lsum f (rngI a b) = sumU f a b := by unfold rngI sumU; exact lsum_range f a _
theorem capOf_lsum (p : Nat → Bool) (l : List Arc) : capOf p l = lsum (fun a => if p a.f.toNat = true ∧ p a.t.toNat = false then a.c else 0) l := by
  induction l with
  | nil => rfl
  | cons a l ih => simp only [capOf, lsum, ih]
/-! the capacity of a set of nodes at times -/
def waitB (qs : List Int) (hs : List Hd) (d : Dm) (B : Int → Int → Bool) (n t : Int) : Int := if (B n t && !B n (t + 1)) = true then roomT qs hs d n t else 0
def conB (cs : List Ct) (bs : List Bk) (d : Dm) (B : Int → Int → Bool) (i t : Int) : Int := match cs[i.toNat]? with
  | none => 0
  | some x => if x.s ≤ t ∧ t < x.e ∧ t + 1 + x.g ≤ d.e ∧ bookedB bs i t = false ∧ (B x.f t && !B x.t (t + 1 + x.g)) = true then x.r else 0
def capB (qs : List Int) (cs : List Ct) (bs : List Bk) (hs : List Hd) (d : Dm) (B : Int → Int → Bool) : Int :=
  sumT (fun n => sumU (waitB qs hs d B n) d.r d.e) 0 qs.length + sumT (fun i => sumU (conB cs bs d B i) d.r d.e) 0 cs.length
theorem lsum_waitA (f : EA → Int) (qs : List Int) (hs : List Hd) (d : Dm) : ∀ m : Nat, lsum f (waitA qs hs d m) = sumT (fun n => sumU (fun t => f ⟨⟨vtx d n t, vtx d n (t + 1), roomT qs hs d n t⟩, -1, t⟩) d.r d.e) 0 m
  | 0 => rfl
  | m + 1 => by
    unfold waitA
    rw [lsum_append, lsum_waitA f qs hs d m]
    unfold waitN
    rw [lsum_map, lsum_rngI]
    show _ = sumT _ 0 m + _
    rw [Int.zero_add]
theorem VOk.lsum_conN (h : VOk qs cs bs hs d) (f : EA → Int) (i : Nat) {c : Ct} (hc : cs[i]? = some c) : lsum f (conN cs bs d i) = sumU (fun t => if c.s ≤ t ∧ t < c.e ∧ t + 1 + c.g ≤ d.e ∧ bookedB bs i t = false then f (conE d c i t) else 0) d.r d.e := by
  have k := h.ct c (List.mem_of_getElem? hc)
  obtain ⟨n1, _, n3⟩ := h.free hc
  unfold conN
  rw [hc]
  simp only
  rw [lsum_map, tickL_all n1 (by omega), lsum_filter, lsum_rngI]
  congr 1
  funext t
  rw [n3]
  by_cases hb : bookedB bs i t = false
  · by_cases h1 : c.s ≤ t ∧ t < c.e ∧ t + 1 + c.g ≤ d.e
    · have hl : (decide (c.s ≤ t ∧ t < c.e) && !bookedB bs (↑i) t && decide (t + c.g < d.e)) = true := by
        rw [hb, decide_eq_true (show c.s ≤ t ∧ t < c.e by omega), decide_eq_true (show t + c.g < d.e by omega)]
        rfl
      rw [if_pos hl, if_pos ⟨h1.1, h1.2.1, h1.2.2, hb⟩]
    · rw [if_neg (show ¬ (decide (c.s ≤ t ∧ t < c.e) && !bookedB bs (↑i) t && decide (t + c.g < d.e)) = true by
          rw [Bool.and_eq_true, Bool.and_eq_true, decide_eq_true_eq, decide_eq_true_eq]
          omega), if_neg (show ¬ (c.s ≤ t ∧ t < c.e ∧ t + 1 + c.g ≤ d.e ∧ bookedB bs i t = false) from fun h2 => h1 ⟨h2.1, h2.2.1, h2.2.2.1⟩)]
  · rw [if_neg (show ¬ (decide (c.s ≤ t ∧ t < c.e) && !bookedB bs (↑i) t && decide (t + c.g < d.e)) = true by
        rw [Bool.and_eq_true, Bool.and_eq_true, Bool.not_eq_true']
        exact fun h2 => hb h2.1.2), if_neg (show ¬ (c.s ≤ t ∧ t < c.e ∧ t + 1 + c.g ≤ d.e ∧ bookedB bs i t = false) from fun h2 => hb h2.2.2.2)]
theorem capB_eq (h : VOk qs cs bs hs d) (p : Nat → Bool) : capOf p (arcsG qs cs bs hs d) = capB qs cs bs hs d (fun n t => p (vtx d n t).toNat) := by
  have hcond : ∀ a b : Bool, (a = true ∧ b = false) ↔ (a && !b) = true := by decide
  unfold arcsG
  rw [capOf_lsum, lsum_map]
  unfold arcsE
  rw [lsum_append, lsum_waitA]
  unfold capB
  congr 1
  · refine sumT_congr (fun k hk => ?_)
    congr 1
    funext t
    unfold waitB
    simp only [hcond]
  · have : ∀ m, m ≤ cs.length → lsum (fun x : EA => if p x.a.f.toNat = true ∧ p x.a.t.toNat = false then x.a.c else 0) (conA cs bs d m) = sumT (fun i => sumU (conB cs bs d (fun n t => p (vtx d n t).toNat) i) d.r d.e) 0 m := by
      intro m
      induction m with
      | zero => intro _; rfl
      | succ m ih =>
        intro hm
        have hx := List.getElem?_eq_getElem (show m < cs.length by omega)
        unfold conA
        rw [lsum_append, ih (by omega), h.lsum_conN _ m hx]
        show _ = sumT _ 0 m + _
        congr 1
        rw [Int.zero_add]
        congr 1
        funext t
        unfold conB
        rw [Int.toNat_natCast, hx]
        simp only [conE, hcond]
        by_cases h1 : cs[m].s ≤ t ∧ t < cs[m].e ∧ t + 1 + cs[m].g ≤ d.e ∧ bookedB bs m t = false
        · rw [if_pos h1]
          by_cases h2 : (p (vtx d cs[m].f t).toNat && !p (vtx d cs[m].t (t + 1 + cs[m].g)).toNat) = true
          · rw [if_pos h2, if_pos ⟨h1.1, h1.2.1, h1.2.2.1, h1.2.2.2, h2⟩]
          · rw [if_neg h2, if_neg (fun h3 => h2 h3.2.2.2.2)]
        · rw [if_neg h1, if_neg (fun h3 => h1 ⟨h3.1, h3.2.1, h3.2.2.1, h3.2.2.2.1⟩)]
    exact this _ (Nat.le_refl _)
end
end Go.Step
/- Maps whose keys are structs of two or three ints: looked up, changed. No conditions. -/
namespace Go.Eng
variable {C : Cx} {D : List Deferred} {R H : List PH} {L : Env} {K : List It}
variable {dst : Option Tmp} {ty : TypeId} {pos : String} {aft : Array Edge} {g : Option (Nat × Bool)}
abbrev aggI (k : List Int) : Value := .agg (k.map int).toArray
def entsS : Nat → List (List Int × Value) → List MapEntry
  | _, [] => []
  | i, kv :: m => ⟨aggI kv.1, kv.2, i⟩ :: entsS (i + 1) m
def mapS (m : List (List Int × Value)) : Obj := .map (entsS 0 m).toArray m.length
def midxS (k : List Int) : List (List Int × Value) → Option (Nat × Value)
  | [] => none
  | (a, v) :: m => if k = a then some (0, v) else (midxS k m).map (fun p => (p.1 + 1, p.2))
def mgetS (k : List Int) (m : List (List Int × Value)) : Option Value := (midxS k m).map (·.2)
def msetS (k : List Int) (v : Value) : List (List Int × Value) → List (List Int × Value)
  | [] => [(k, v)]
  | (a, w) :: m => if k = a then (a, v) :: m else (a, w) :: msetS k v m
theorem mgetS_mset (k x : List Int) (v : Value) : ∀ m : List (List Int × Value), mgetS x (msetS k v m) = if x = k then some v else mgetS x m
  | [] => by
    by_cases h : x = k <;> simp [msetS, mgetS, midxS, h]
  | (a, w) :: m => by
    have ih := mgetS_mset k x v m
    by_cases h : k = a
    · subst h
      simp only [msetS, if_true, mgetS, midxS]
      by_cases e : x = k <;> simp [e]
    · simp only [msetS, if_neg h, mgetS, midxS] at ih ⊢
      by_cases e : x = a
      · subst e
        simp [Ne.symm h]
      · simp only [if_neg e, Option.map_map] at ih ⊢
        have e2 : ((fun x : Nat × Value => x.2) ∘ fun p : Nat × Value => (p.1 + 1, p.2)) = fun x => x.2 := rfl
        rw [e2, ih]
theorem mset_noneS {k : List Int} {v : Value} : ∀ {m : List (List Int × Value)} (i : Nat), midxS k m = none → entsS i m ++ [⟨aggI k, v, i + m.length⟩] = entsS i (msetS k v m) ∧ (msetS k v m).length = m.length + 1
  | [], i, _ => ⟨rfl, rfl⟩
  | (a, w) :: m, i, h => by
    unfold midxS at h
    split at h
    · exact absurd h (by simp)
    · rename_i hk
      have h' : midxS k m = none := by simpa using h
      obtain ⟨e, l⟩ := mset_noneS (k := k) (v := v) (m := m) (i + 1) h'
      simp only [msetS, if_neg hk, entsS, List.cons_append, List.length_cons, l, and_true, ← e]
      congr 4
      omega
theorem mset_someS {k : List Int} {v : Value} : ∀ {m : List (List Int × Value)} (i n : Nat) (w : Value), midxS k m = some (n, w) → (entsS i m).modify n (fun e => { e with key := aggI k, val := v }) = entsS i (msetS k v m) ∧ (msetS k v m).length = m.length ∧ n < m.length ∧ ((entsS i m)[n]?).map (·.key) = some (aggI k)
  | [], i, n, w, h => by simp [midxS] at h
  | (a, u) :: m, i, n, w, h => by
    unfold midxS at h
    split at h
    · rename_i hk
      subst hk
      simp at h
      obtain ⟨rfl, rfl⟩ := h
      simp [entsS, msetS]
    · rename_i hk
      cases hm : midxS k m with
      | none => rw [hm] at h; simp at h
      | some p =>
        rw [hm] at h
        simp at h
        obtain ⟨rfl, rfl⟩ := h
        obtain ⟨e, l, l2, l3⟩ := mset_someS (k := k) (v := v) (m := m) (i + 1) p.1 p.2 hm
        simp only [msetS, if_neg hk, entsS, List.length_cons, l, List.modify_succ_cons, e]
        refine ⟨trivial, trivial, by omega, ?_⟩
        simpa using l3
/-- a map's key: a struct of n ints -/
structure KeyS (P : Program) (kt : TypeId) (n : Nat) : Prop where
  i : intsP P kt n = true
  s : P.stoodInHeld kt = false
theorem run_askS {P : Program} {w : World} {kt : TypeId} {n : Nat} {k : List Int} (hk : KeyS P kt n) (hn : k.length = n) : ∀ (m : List (List Int × Value)) (i j : Nat), (∀ x ∈ m, x.1.length = n) → (Instr.findAsking kt (aggI k) (entsS i m) j).run P w = .ok ((midxS k m).map (fun p => (j + p.1, p.2))) w
  | [], i, j, _ => by simp [entsS, Instr.findAsking, midxS]
  | (a, v) :: m, i, j, h => by
    have ih := run_askS (w := w) hk hn m (i + 1) (j + 1) (fun x hx => h x (by simp [hx]))
    have he := run_eqInts (P := P) w hk.i hk.s hn (h (a, v) (by simp))
    simp only [entsS, Instr.findAsking, Op.equal, Op.maxDepth, Sem.run_bind, he, Result.andThen_ok, midxS]
    by_cases e : k = a
    · simp [e]
    · simp only [e, decide_false, Bool.false_eq_true, if_false, ih, Option.map_map]
      congr 2
      funext p
      show (j + 1 + p.1, p.2) = (j + (p.1 + 1), p.2)
      rw [show j + 1 + p.1 = j + (p.1 + 1) by omega]
theorem run_findS {P : Program} {w : World} {kt : TypeId} {n : Nat} {k : List Int} (hk : KeyS P kt n) (hn : k.length = n) {m : List (List Int × Value)} (h : ∀ x ∈ m, x.1.length = n) : (Instr.findKey kt (aggI k) (entsS 0 m)).run P w = .ok (midxS k m) w := by
  obtain ⟨fs, hu, _, _⟩ := intsP_of hk.i
  rw [run_findKey_eq w (by rw [hu]), run_askS hk hn m 0 0 h]
  simp
theorem run_checkFlds {P : Program} {w : World} (em : Bool) (d : Nat) (k : List Int) : ∀ (fs : List Field) (j : Nat), fldsI P j fs = true → j + fs.length = k.length →
    ((forIn fs PUnit.unit fun (f : Field) (_ : PUnit) => (if f.name ≠ "_" then do let x ← part f.type (k.map int).toArray f.offset; Instr.checkKey em (d + 1) f.type x; pure (ForInStep.yield PUnit.unit) else pure (ForInStep.yield PUnit.unit) : Sem (ForInStep PUnit)))).run P w = .ok PUnit.unit w
  | [], j, _, _ => by simp
  | f :: fs, j, hf, h => by
    simp only [fldsI, fldI, Bool.and_eq_true, bne_iff_ne, ne_eq, beq_iff_eq] at hf
    obtain ⟨⟨⟨h3, h4⟩, h5⟩, h6⟩ := hf
    have hu : P.underlying f.type = some (.int .i64) := by
      split at h5
      · assumption
      · simp at h5
    have ih := run_checkFlds (w := w) em d k fs (j + 1) h6 (by simp at h; omega)
    have hk : j < k.length := by simp at h; omega
    have hp : (part f.type (k.map int).toArray f.offset).run P w = .ok (int k[j]) w := by
      have hag : aggP P f.type = some false := by simp [aggP, hu]
      simp [part, run_isAgg hag, h4, hk]
    have hc := run_checkKey (P := P) (w := w) (k := k[j]) em d hu
    rw [List.forIn_cons]
    simp only [h3, not_false_eq_true, if_true, ne_eq, bind_assoc, Sem.run_bind, hp, hc, Result.andThen_ok, pure_bind]
    exact ih
theorem run_checkS {P : Program} {w : World} {kt : TypeId} {n : Nat} {k : List Int} (hk : KeyS P kt n) (hn : k.length = n) (em : Bool) : (Instr.checkKey em 10000 kt (aggI k)).run P w = .ok () w := by
  obtain ⟨fs, hu, hs, hf⟩ := intsP_of hk.i
  have h := run_checkFlds (P := P) (w := w) em 9998 k fs.toList 0 hf (by simp [hs, hn])
  rw [show (10000 : Nat) = 9999 + 1 from rfl, Instr.checkKey]
  simp only [Sem.run_bind, run_underlying hu, Result.andThen_ok, ← Array.forIn_toList]
  rw [h]
  rfl
theorem run_lookupS {P : Program} {w : World} {t kt et : TypeId} {b n : Nat} {k : List Int} {l : List (List Int × Value)} {z : Value} {ok : Bool} (ht : P.underlying t = some (.map kt et)) (hk : KeyS P kt n) (hn : k.length = n) (hl : ∀ x ∈ l, x.1.length = n) (hz : zeroP P et = some z) (hg : w.heap[b]? = some (mapS l)) :
    (Instr.lookup t (.map (some b)) (aggI k) ok).run P w = .ok (if ok then .tuple #[(mgetS k l).getD z, .bool (mgetS k l).isSome] else (mgetS k l).getD z) w := by
  have hf := run_findS (P := P) (w := w) (k := k) hk hn hl
  have hc := fun e => run_checkS (P := P) (w := w) (k := k) hk hn e
  unfold mgetS
  cases hm : midxS k l with
  | none =>
    rw [hm] at hf
    simp [Instr.lookup, run_underlying ht, getObj, Sem.run, hg, mapS]
    simp [hc, hf, run_zeroValue hz]
  | some p =>
    rw [hm] at hf
    simp [Instr.lookup, run_underlying ht, getObj, Sem.run, hg, mapS]
    simp [hc, hf]
def MapAtS (N : Bs) (R H : List PH) (b : Nat) (l : List (List Int × Value)) : Prop := ∀ w, Sat N R H w → w.heap[b]? = some (mapS l)
theorem mapAtS_rd {N : Bs} {b : Nat} {l : List (List Int × Value)} (m : Mem (sng b (mapS l)) R) : MapAtS N R H b l := fun w hs => hs.r _ m.mem b _ (sng_self b _)
theorem EZ {t : TypeId} : Loud C R H L ⟨dst, .makeMap t none, ty, pos, aft, g⟩ (fun v H' => ∃ b, v = .map (some b) ∧ H' = sng b (mapS []) :: H) := D7
theorem FL {x y : Operand} {t kt et : TypeId} {b : Nat} (n : Nat) (k : List Int) {l : List (List Int × Value)} {z : Value} (h : evalE L x = some (.map (some b))) (hk : evalE L y = some (aggI k)) (ht : C.P.underlying t = some (.map kt et)) (hkt : KeyS C.P kt n) (hn : k.length = n) (hl : ∀ x ∈ l, x.1.length = n) (hz : zeroP C.P et = some z) (hm : MapAtS C.N R H b l) :
    Quiet C R H L ⟨dst, .lookup t x y false, ty, pos, aft, g⟩ ((mgetS k l).getD z) :=
  ⟨by intro c; simp, fun a w hx hs => by
    have e1 := hx x (by simp [Op.operands]) _ h
    have e2 := hx y (by simp [Op.operands]) _ hk
    simp [execOp, e1, e2, run_lookupS (ok := false) ht hkt hn hl hz (hm w hs)]⟩
theorem DS {x y : Operand} {t kt et : TypeId} {b : Nat} (n : Nat) (k : List Int) {l : List (List Int × Value)} {z : Value} (h : evalE L x = some (.map (some b))) (hk : evalE L y = some (aggI k)) (ht : C.P.underlying t = some (.map kt et)) (hkt : KeyS C.P kt n) (hn : k.length = n) (hl : ∀ x ∈ l, x.1.length = n) (hz : zeroP C.P et = some z) (hm : MapAtS C.N R H b l) :
    Quiet C R H L ⟨dst, .lookup t x y true, ty, pos, aft, g⟩ (.tuple #[(mgetS k l).getD z, .bool (mgetS k l).isSome]) :=
  ⟨by intro c; simp, fun a w hx hs => by
    have e1 := hx x (by simp [Op.operands]) _ h
    have e2 := hx y (by simp [Op.operands]) _ hk
    simp [execOp, e1, e2, run_lookupS (ok := true) ht hkt hn hl hz (hm w hs)]⟩
theorem sameBits_agg (k : List Int) : Instr.sameBits 10000 (aggI k) (aggI k) = true := by
  have h : ∀ l : List Int, ((l.map int).zip (l.map int)).all (fun p => Instr.sameBits 9999 p.1 p.2) = true := by
    intro l
    induction l with
    | nil => rfl
    | cons x l ih =>
      simp only [List.map_cons, List.zip_cons_cons, List.all_cons, ih, Bool.and_true]
      simp [Instr.sameBits]
  have h2 := h k
  simp only [aggI]
  unfold Instr.sameBits
  simp only [beq_self_eq_true, Bool.true_and]
  exact h2
theorem run_mapUpdateS {P : Program} {w : World} {t kt et : TypeId} {b n : Nat} {k : List Int} {v : Value} {l : List (List Int × Value)} (ht : P.underlying t = some (.map kt et)) (hkt : KeyS P kt n) (hn : k.length = n) (hl : ∀ x ∈ l, x.1.length = n) (hg : w.heap[b]? = some (mapS l)) :
    (Instr.mapUpdate t (.map (some b)) (aggI k) v).run P w = .ok () { w with heap := w.heap.setIfInBounds b (mapS (msetS k v l)) } := by
  have hf := run_findS (P := P) (w := w) (k := k) hkt hn hl
  have hc := fun e => run_checkS (P := P) (w := w) (k := k) hkt hn e
  cases hm : midxS k l with
  | none =>
    rw [hm] at hf
    obtain ⟨e, n⟩ := mset_noneS (k := k) (v := v) 0 hm
    have e2 : mapS (msetS k v l) = .map ((entsS 0 l).toArray.push ⟨aggI k, v, l.length⟩) (l.length + 1) := by
      unfold mapS; rw [n, ← e]; simp
    rw [e2]
    simp [Instr.mapUpdate, run_underlying ht, getObj, Sem.run, hg, mapS]
    simp [hc, hf, setObj, Sem.run, hg, mapS]
  | some p =>
    rw [hm] at hf
    obtain ⟨e, n, n2, n3⟩ := mset_someS (k := k) (v := v) 0 p.1 p.2 hm
    have e2 : mapS (msetS k v l) = .map ((entsS 0 l).toArray.modify p.1 (fun e => { e with key := aggI k, val := v })) l.length := by
      unfold mapS; rw [n, ← e]; simp
    rw [e2]
    have hks : (Instr.keyThatStays (aggI k) (aggI k)).run P w = .ok (aggI k) w := by simp [Instr.keyThatStays, sameBits_agg]
    simp [Instr.mapUpdate, run_underlying ht, getObj, Sem.run, hg, mapS]
    simp [hc, hf, setObj, Sem.run, n3, hks, hg, mapS]
theorem ED {x y z : Operand} {t kt et : TypeId} {b : Nat} (n : Nat) (k : List Int) {v : Value} {l : List (List Int × Value)} {H' : List PH} (h : evalE L x = some (.map (some b))) (hk : evalE L y = some (aggI k)) (hv : evalE L z = some v) (ht : C.P.underlying t = some (.map kt et)) (hkt : KeyS C.P kt n) (hn : k.length = n) (hl : ∀ x ∈ l, x.1.length = n) (hm : Take (sng b (mapS l)) H H') :
    Loud C R H L ⟨dst, .mapUpdate t x y z, ty, pos, aft, g⟩ (fun u H2 => u = undef ∧ H2 = sng b (mapS (msetS k v l)) :: H') := by
  refine ⟨fun a w hx hs next Q hnx => ?_⟩
  have hg := hs.own hm
  have e1 := hx x (by simp [Op.operands]) _ h
  have e2 := hx y (by simp [Op.operands]) _ hk
  have e3 := hx z (by simp [Op.operands]) _ hv
  refine wpIn_skipv (w' := { w with heap := w.heap.setIfInBounds b (mapS (msetS k v l)) }) (by intro c; simp) ?_ (hnx _ _ _ ⟨rfl, rfl⟩ (hs.turn hm ?_ ?_ ?_))
  · simp [execOp, e1, e2, e3, run_mapUpdateS ht hkt hn hl hg]
  · simp
  · have : b < w.heap.size := by
      rw [Array.getElem?_eq_some_iff] at hg; exact hg.1
    simp [this]
  · intro k hk; simp [Array.getElem?_setIfInBounds, Ne.symm hk]
theorem msetS_len {k : List Int} {v : Value} {n : Nat} (hk : k.length = n) : ∀ {l : List (List Int × Value)}, (∀ x ∈ l, x.1.length = n) → ∀ x ∈ msetS k v l, x.1.length = n
  | [], _, x, hx => by simp [msetS] at hx; rw [hx]; exact hk
  | (a, w) :: l, h, x, hx => by
    unfold msetS at hx
    split at hx
    · rcases List.mem_cons.1 hx with rfl | hx
      · exact h (a, w) (by simp)
      · exact h x (by simp [hx])
    · rcases List.mem_cons.1 hx with rfl | hx
      · exact h (a, w) (by simp)
      · exact msetS_len hk (l := l) (fun y hy => h y (by simp [hy])) x hx
end Go.Eng
/- Nodes at times, numbered in a map. No program in sight. No conditions. -/
namespace Go.Step
open Go.Eng
def placesN (d : Dm) (n : Nat) (t : Int) : List (Int × Int) := (rngI d.r t).map (fun u => ((n : Int), u))
def placesA (d : Dm) : Nat → List (Int × Int)
  | 0 => []
  | n + 1 => placesA d n ++ placesN d n (d.e + 1)
theorem placesN_len (d : Dm) (n : Nat) (t : Int) : (placesN d n t).length = (t - d.r).toNat := by unfold placesN; rw [List.length_map, rngI_len]
theorem placesA_len {d : Dm} (h : d.r ≤ d.e) : ∀ m : Nat, ((placesA d m).length : Int) = m * wd d
  | 0 => by simp [placesA]
  | m + 1 => by
    have ih := placesA_len h m
    unfold placesA
    rw [List.length_append, placesN_len, Int.natCast_add, ih, Int.natCast_add, Int.add_mul]
    unfold wd
    omega
theorem places_at {d : Dm} (h : d.r ≤ d.e) {k : Nat} {t : Int} (ht : d.r ≤ t) : ((placesA d k ++ placesN d k t).length : Int) = vtx d k t := by
  rw [List.length_append, placesN_len, Int.natCast_add, placesA_len h]
  unfold vtx
  omega
theorem placesN_snoc {d : Dm} {k : Nat} {t : Int} (ht : d.r ≤ t) : placesN d k (t + 1) = placesN d k t ++ [((k : Int), t)] := by
  unfold placesN
  rw [rngI_snoc ht, List.map_append]
  rfl
theorem placesN_nil (d : Dm) (k : Nat) : placesN d k d.r = [] := by
  unfold placesN
  rw [rngI_nil (Int.le_refl _)]
  rfl
theorem placesA_get {d : Dm} (h : d.r ≤ d.e) {n : Nat} {t : Int} (h1 : d.r ≤ t) (h2 : t ≤ d.e) : ∀ {m : Nat}, n < m → (placesA d m)[(vtx d n t).toNat]? = some ((n : Int), t)
  | 0, hm => by omega
  | m + 1, hm => by
    have hl := placesA_len h m
    have hp : 0 ≤ vtx d n t := by
      unfold vtx
      have := Int.mul_nonneg (show 0 ≤ (n : Int) by omega) (show 0 ≤ wd d by unfold wd; omega)
      omega
    unfold placesA
    by_cases hn : n < m
    · have hlt := (vtx_lt (d := d) (n := n) (t := t) (N := m) (by omega) (by omega) h1 h2).2
      rw [List.getElem?_append_left (by omega)]
      exact placesA_get h h1 h2 hn
    · obtain rfl : n = m := by omega
      have hv : vtx d n t = n * wd d + (t - d.r) := rfl
      rw [List.getElem?_append_right (by omega)]
      have e : (vtx d n t).toNat - (placesA d n).length = (t - d.r).toNat := by omega
      rw [e]
      unfold placesN
      rw [List.getElem?_map, rngI_get (by omega)]
      simp only [Option.map_some, Option.some.injEq, Prod.mk.injEq, true_and]
      omega
theorem tickL_len (r e g : Int) (F : List (Int × Int)) {k : Nat} {x : Int × Int} (h : F[k]? = some x) : (tickL r e g (F.take (k + 1))).length = (tickL r e g (F.take k)).length + (min x.2 (e - g) - max x.1 r).toNat := by
  obtain ⟨hk, rfl⟩ := List.getElem?_eq_some_iff.1 h
  unfold tickL
  rw [List.take_succ_eq_append_getElem hk, List.flatMap_append, List.length_append]
  congr 1
  simp [tickS, rngI_len]
theorem tickL_at (r e g : Int) (F : List (Int × Int)) {k : Nat} {x : Int × Int} (h : F[k]? = some x) {t : Int} (h1 : max x.1 r ≤ t) (h2 : t < min x.2 (e - g)) : (tickL r e g F)[(tickL r e g (F.take k)).length + (t - max x.1 r).toNat]? = some t := by
  obtain ⟨hk, rfl⟩ := List.getElem?_eq_some_iff.1 h
  have hF : tickL r e g F = tickL r e g (F.take k) ++ (tickS r e g F[k] ++ tickL r e g (F.drop (k + 1))) := by
    have h3 : F = F.take k ++ F[k] :: F.drop (k + 1) := by rw [← List.drop_eq_getElem_cons hk, List.take_append_drop]
    conv => lhs; rw [h3]
    unfold tickL
    rw [List.flatMap_append, List.flatMap_cons]
  rw [hF, List.getElem?_append_right (by omega), Nat.add_sub_cancel_left, List.getElem?_append_left (by unfold tickS; rw [rngI_len]; omega)]
  unfold tickS
  rw [rngI_get (by omega)]
  congr 1
  omega
/-- the numbers of the nodes before k, and of node k before t -/
def NumAt (d : Dm) (k t : Int) (M : List (List Int × Value)) : Prop := (∀ e ∈ M, e.1.length = 2) ∧ ∀ n u : Int, mgetS [n, u] M = if (0 ≤ n ∧ d.r ≤ u ∧ u ≤ d.e) ∧ (n < k ∨ (n = k ∧ u < t)) then some (int (vtx d n u)) else none
theorem NumAt.nil (d : Dm) : NumAt d 0 d.r [] := ⟨by simp, fun n u => by rw [if_neg (by omega)]; rfl⟩
theorem NumAt.row {d : Dm} {k t : Int} {M : List (List Int × Value)} (h : NumAt d k t M) (ht : d.e < t) : NumAt d (k + 1) d.r M := ⟨h.1, fun n u => by
  rw [h.2]
  by_cases c : (0 ≤ n ∧ d.r ≤ u ∧ u ≤ d.e) ∧ (n < k ∨ (n = k ∧ u < t))
  · rw [if_pos c, if_pos (by omega)]
  · rw [if_neg c, if_neg (by omega)]⟩
theorem NumAt.add {d : Dm} {k t : Int} {M : List (List Int × Value)} (h : NumAt d k t M) (hk : 0 ≤ k) (h1 : d.r ≤ t) (h2 : t ≤ d.e) : NumAt d k (t + 1) (msetS [k, t] (int (vtx d k t)) M) := ⟨msetS_len rfl h.1, fun n u => by
  rw [mgetS_mset]
  by_cases c : [n, u] = [k, t]
  · rw [if_pos c]
    simp only [List.cons.injEq, and_true] at c
    obtain ⟨rfl, rfl⟩ := c
    rw [if_pos (by omega)]
  · rw [if_neg c, h.2]
    have c2 : ¬ (n = k ∧ u = t) := fun h => c (by rw [h.1, h.2])
    by_cases c3 : (0 ≤ n ∧ d.r ≤ u ∧ u ≤ d.e) ∧ (n < k ∨ (n = k ∧ u < t))
    · rw [if_pos c3, if_pos (by omega)]
    · rw [if_neg c3, if_neg (by omega)]⟩
end Go.Step
/- What an owned slice looks like; chunks that hold more. No conditions. -/
namespace Go.Eng
theorem OwnS.form {e : TypeId} {s n : Nat} {v : Value} {xs : List Value} {ρ : PH} (h : OwnS e s v n xs ρ) : ∃ p c, v = .slice p n c := by
  obtain ⟨_, ⟨rfl, rfl, _⟩ | ⟨b, cap, _, rfl, _⟩⟩ := h
  · exact ⟨none, 0, rfl⟩
  · exact ⟨_, cap, rfl⟩
theorem OwnS.formP {e : TypeId} {s n : Nat} {v : Value} {xs : List Value} {ρ : PH} (h : OwnS e s v n xs ρ) (hn : 0 < n) : ∃ b c, v = .slice (some ⟨b, 0, none⟩) n c := by
  obtain ⟨_, ⟨_, h, _⟩ | ⟨b, cap, _, rfl, _⟩⟩ := h
  · omega
  · exact ⟨b, cap, rfl⟩
theorem SlAt.mono {ρ γ : PH} {s n : Nat} {v : Value} {xs : List Value} (h : SlAt ρ s v n xs) (hs : PH.sub ρ γ) : SlAt γ s v n xs := by
  obtain ⟨h1, h2 | ⟨b, o, c, e, h3⟩⟩ := h
  · exact ⟨h1, .inl h2⟩
  · exact ⟨h1, .inr ⟨b, o, c, e, fun j u hu => hs.rdc (h3 j u hu)⟩⟩
theorem SlE.mono {α : Type} {enc : α → List Value} {s : Nat} {ρ γ : PH} {v : Value} {l : List α} (h : SlE enc s ρ v l) (hs : PH.sub ρ γ) : SlE enc s γ v l := SlAt.mono h hs
end Go.Eng
/- Arrays of small values: their elements' places, two of them built. No conditions. -/
namespace Go.Eng
variable {C : Cx} {R H : List PH} {L : Env} {dst : Option Tmp} {ty : TypeId} {pos : String} {aft : Array Edge} {g : Option (Nat × Bool)}
theorem F7 {x y : Operand} {t e : TypeId} {b o n i : Nat} {k : IntKind} (h : evalE L x = some (.pointer (some ⟨b, o, none⟩))) (h2 : evalE L y = some (.int k (i : Int))) (ht : C.P.underlying t = some (.array n e)) (hs : szP C.P e = some 1) (hn : i < n) :
    Quiet C R H L ⟨dst, .indexAddr t x y, ty, pos, aft, g⟩ (.pointer (some ⟨b, o + i, none⟩)) :=
  ⟨by intro c; simp, fun a w hx _ => by
    simp [execOp, hx x (by simp [Op.operands]) _ h, hx y (by simp [Op.operands]) _ h2, Instr.indexAt, Instr.sureAddr, asIntOf, run_underlying ht, hn, run_sizeOf hs, Addr.add_lit]⟩
theorem GJ {x y : Operand} {t e : TypeId} {b o n : Nat} {k : IntKind} (h : evalE L x = some (.pointer (some ⟨b, o, none⟩))) (h2 : evalE L y = some (.int k 0)) (ht : C.P.underlying t = some (.array n e)) (hs : szP C.P e = some 1) (hn : 0 < n) :
    Quiet C R H L ⟨dst, .indexAddr t x y, ty, pos, aft, g⟩ (.pointer (some ⟨b, o, none⟩)) := F7 (i := 0) h h2 ht hs hn
theorem GK {x y : Operand} {t e : TypeId} {b o n : Nat} {k : IntKind} (h : evalE L x = some (.pointer (some ⟨b, o, none⟩))) (h2 : evalE L y = some (.int k 1)) (ht : C.P.underlying t = some (.array n e)) (hs : szP C.P e = some 1) (hn : 1 < n) :
    Quiet C R H L ⟨dst, .indexAddr t x y, ty, pos, aft, g⟩ (.pointer (some ⟨b, o + 1, none⟩)) := F7 (i := 1) h h2 ht hs hn
theorem C9 {x y : Operand} {t e : TypeId} {z0 z1 v0 v1 : Value} (h : evalE L x = some v0) (h2 : evalE L y = some v1) (ht : C.P.underlying t = some (.array 2 e)) (hs : szP C.P e = some 1) (hz : zeroP C.P t = some (.agg #[z0, z1])) (o0 : v0.oneCell' = true) (o1 : v1.oneCell' = true) :
    Quiet C R H L ⟨dst, .build t #[(0, x), (1, y)], ty, pos, aft, g⟩ (.agg #[v0, v1]) :=
  ⟨by intro c; simp, fun a w hx _ => by
    have c0 : v0.cells = #[v0] := by cases v0 <;> first | rfl | simp [Value.oneCell'] at o0
    have c1 : v1.cells = #[v1] := by cases v1 <;> first | rfl | simp [Value.oneCell'] at o1
    have cz : (Value.agg #[z0, z1]).cells = #[z0, z1] := rfl
    simp [execOp, hx x (by simp [Op.operands]) _ h, hx y (by simp [Op.operands]) _ h2, Instr.build, run_zeroValue hz, run_underlying ht, run_sizeOf hs, cz, Instr.fill, c0, c1]⟩
end Go.Eng
/- Building structs whose fields are structs. No conditions. -/
namespace Go.Eng
variable {C : Cx} {R H : List PH} {L : Env}
def placesP (P : Program) : List Field → Option (List (Nat × Nat))
  | [] => some []
  | f :: fs => match szP P f.type, placesP P fs with
    | some n, some r => some ((f.offset, n) :: r)
    | _, _ => none
def evalPs (L : Env) : List (Nat × Operand) → Option (List (Nat × Value))
  | [] => some []
  | (i, x) :: ps => match evalE L x, evalPs L ps with
    | some v, some r => some ((i, v) :: r)
    | _, _ => none
def fillL (pl : List (Nat × Nat)) : List Value → List (Nat × Value) → Option (List Value)
  | zs, [] => some zs
  | zs, (i, v) :: r => match pl[i]? with
    | none => none
    | some (off, size) => if v.cells.size = size ∧ off + size ≤ zs.length then fillL pl (zs.take off ++ (v.cells.toList ++ zs.drop (off + size))) r else none
theorem fillL_eq {pl : List (Nat × Nat)} : ∀ {pvs : List (Nat × Value)} {zs out : List Value}, fillL pl zs pvs = some out → Instr.fill (fun i => pl[i]?) zs.toArray pvs = some out.toArray
  | [], zs, out, h => by simp [fillL] at h; subst h; rfl
  | (i, v) :: r, zs, out, h => by
    unfold fillL at h
    unfold Instr.fill

    split at h
    · simp at h
    · rename_i off size e
      rw [e]
      split at h
      · rename_i hc
        have ih := fillL_eq h
        have hs := splice_fold v.cells.toList 0 off zs.toArray (by simp; omega)
        simp only
        rw [if_neg (by simp; omega)]
        rw [← ih]
        congr 1
        apply Array.ext'
        simpa [← Array.toList_zipIdx, ← hc.1] using hs
      · simp at h
theorem evalPs_eq {a : Act} : ∀ {ps : List (Nat × Operand)} {pvs : List (Nat × Value)}, evalPs L ps = some pvs → (∀ x ∈ ps.map (·.2), OnE L a x) → ps.map (fun (x : Nat × Operand) => (x.1, a.eval x.2)) = pvs
  | [], pvs, h, _ => by simp [evalPs] at h; subst h; rfl
  | (i, x) :: ps, pvs, h, hx => by
    unfold evalPs at h
    split at h
    · rename_i v r e1 e2
      simp at h; subst h
      rw [List.map_cons, evalPs_eq e2 (fun y hy => hx y (by simp at hy ⊢; exact .inr hy)), hx x (by simp) v e1]
    · simp at h
theorem placesP_run {P : Program} : ∀ (fs : List Field) (pl : List (Nat × Nat)) (w : World), placesP P fs = some pl → (fs.mapM (fun f => Prod.mk f.offset <$> sizeOf f.type : Field → Sem (Nat × Nat))).run P w = .ok pl w
  | [], pl, w, h => by simp [placesP] at h; subst h; simp
  | f :: fs, pl, w, h => by
    unfold placesP at h
    split at h
    · rename_i n r e1 e2
      simp at h; subst h
      simp [List.mapM_cons, run_sizeOf e1, placesP_run fs r w e2]
    · simp at h
theorem DF {dst : Option Tmp} {ty : TypeId} {pos : String} {aft : Array Edge} {g : Option (Nat × Bool)} {t : TypeId} {ps : List (Nat × Operand)} {fs : List Field} {pl : List (Nat × Nat)} {pvs : List (Nat × Value)} {zs out : List Value}
    (hu : C.P.underlying t = some (.struct fs.toArray)) (hz : zeroP C.P t = some (.agg zs.toArray)) (hpl : placesP C.P fs = some pl) (hv : evalPs L ps = some pvs) (ho : fillL pl zs pvs = some out) :
    Quiet C R H L ⟨dst, .build t ps.toArray, ty, pos, aft, g⟩ (.agg out.toArray) :=
  ⟨by intro c; simp, fun a w hxx _ => by
    have h1 := evalPs_eq (a := a) hv (fun x hx => hxx x (by simp [Op.operands] at hx ⊢; exact hx))
    have h2 := placesP_run fs pl w hpl
    have h3 := fillL_eq ho
    simp only [execOp, Instr.build]

    simp [run_zeroValue hz, Value.cells, run_underlying hu, h1, h2, h3]⟩
end Go.Eng
/- Free spans of contacts. -/
namespace Go.Proofs.YthdoegkjifgegaaGreat
open Go.Eng Go.Step
set_option maxRecDepth 100000
set_option maxHeartbeats 4000000

theorem vok {qs : List Int} {cs : List Ct} {bs : List Bk} {hs : List Hd} {d : Dm} (h : validT qs cs bs hs d = true) : VOk qs cs bs hs d := by
 obtain ⟨hcs0, hbl, hok, hhl, hql, hquo, hdm, hcsl⟩ := valid_ok h
 obtain ⟨_, hb, hh⟩ := chkT_ok (of_decide_eq_true h).1
 exact ⟨fun c hc => by
  have h1 := chkCt_all (hcs0 c hc).1
  have h2 := (hcs0 c hc).2
  exact ⟨⟨h1.1.1, by omega⟩, ⟨h1.2.1.1, by omega⟩, h1.2.2.1, h1.2.2.2.1, h1.2.2.2.2⟩, hbl, (chkB_ok hb).2, hok, hhl, fit_of hh, hql, hquo, hdm, hcsl⟩
theorem vokB {qs : List Int} {cs : List Ct} {bs : List Bk} {hs : List Hd} {d : Dm} (h : validT qs cs bs hs d = true) : chkB qs cs bs = 0 := (chkT_ok (of_decide_eq_true h).1).2.1
theorem bkCheck0_spec {ρ τ σ υ : PH} {pq pc pb ph : Option Addr} {kq kc kb kh : Nat} {qs : List Int} {cs : List Ct} {bs : List Bk} {hs : List Hd} (hT : TbAt ρ τ σ υ pq pc pb ph kq kc kb kh qs cs bs hs) (i : Nat) (h0 : chkB qs cs bs = 0) (hi : i < cs.length) :
  Ans Tryz.prog (fv 69) [.agg #[.slice pq qs.length kq, .slice pc cs.length kc], .slice pb bs.length kb, int (i : Int)] [ρ, τ, σ] (fun r => r = int 0) := by
 have hck := bkCheck_spec ρ τ σ pq pc kq kc qs cs _ bs hT.hq hT.hc hT.hcap hT.lq hT.lc hT.hb hT.lb
 rw [h0] at hck
 refine spec_in (cap := []) Tryz.func69 rfl rfl Tryz.ntmps69 rfl envZ (fun N β => ?_)
 refine AD ?_
 refine AA ?_
 refine BJ (BN rfl) rfl rfl rfl ?_
 rintro _ _ ⟨b3, rfl, rfl⟩
 refine AR (ρ := sng b3 _) takeZ ?_
 have c : RdN (sng b3 (.cells #[.slice pq qs.length kq, .slice pc cs.length kc] 25 (0, 0))) b3 0 [.slice pq qs.length kq, .slice pc cs.length kc] := rdN_sng (vs := [.slice pq qs.length kq, .slice pc cs.length kc])
 have c0 : rdc (sng b3 (.cells #[.slice pq qs.length kq, .slice pc cs.length kc] 25 (0, 0))) b3 0 = some (.slice pq qs.length kq) := by rw [rdc_sng]; rfl
 have c1 : rdc (sng b3 (.cells #[.slice pq qs.length kq, .slice pc cs.length kc] 25 (0, 0))) b3 1 = some (.slice pc cs.length kc) := by rw [rdc_sng]; rfl
 refine AC ?_
 refine AE ?_
 refine AD ?_
 refine AD ?_
 refine AA ?_
 refine AS ?_
 refine AB ?_
 refine A2 hck rfl rfl rdZ rfl rfl ?_
 rintro _ rfl
 refine BA ?_
 refine AE ?_
 refine AM rfl ?_
 refine AL ?_
 refine AD ?_
 refine AD ?_
 refine AA ?_
 refine AB ?_
 refine AW ?_
 refine AB ?_
 refine AB ?_
 refine AH ?_
 refine AF ?_
 refine A0 ?_
 refine BE ?_
 refine AJ ?_
 refine AE ?_
 refine AM rfl ?_
 refine AL ?_
 refine AD ?_
 refine AA ?_
 refine AC ?_
 refine AE ?_
 exact AI (res1 rfl rfl) rsubZ selZ ⟨rfl, rfl⟩
theorem freeAdd_spec (bA bO : Nat) (a to : Int) (u : Value) (G : List (Int × Int)) (χ : PH) (hO : OwnS 61 2 u G.length (G.flatMap encS) χ) (hl : G.length ≤ 100000) :
  Eng.Spec Tryz.prog (.func (.func 106) #[] #[.pointer (some ⟨bA, 0, none⟩), .pointer (some ⟨bO, 0, none⟩)]) [int to] [] [sng bA (.cells #[int a] 3 (0, 0)), sng bO (.cells #[u] 59 (0, 0)), χ] (fun r H' => r = .tuple #[] ∧ ∃ u' χ', H' = [sng bA (.cells #[int a] 3 (0, 0)), sng bO (.cells #[u'] 59 (0, 0)), χ'] ∧ OwnS 61 2 u' (G ++ if a < to then [(a, to)] else []).length ((G ++ if a < to then [(a, to)] else []).flatMap encS) χ') := by
 have hone : ∀ z n (xs : List Value) (χ : PH), OwnS 61 2 z n xs χ → z.oneCell' = true := fun z n xs χ h => by obtain ⟨_, _, rfl⟩ := h.form; rfl
 have hu := hone _ _ _ _ hO
 refine spec_in (cap := [.pointer (some ⟨bA, 0, none⟩), .pointer (some ⟨bO, 0, none⟩)]) Tryz.func106 rfl rfl Tryz.ntmps106 rfl envZ (fun N β => ?_)
 by_cases h : a < to
 ·rw [if_pos h]
  refine AD ?_
  refine AA ?_
  refine AF ?_
  refine AB ?_
  refine BD ?_
  refine AE ?_
  refine AP rfl ?_
  refine AA ?_
  refine AF ?_
  refine AF ?_
  refine AB ?_
  refine BS ?_
  refine BH ?_; rintro _ _ ⟨b, rfl, rfl⟩
  refine BJ (CA (by_ := 16) (s := 2) (news := [int a, int to]) rfl rfl rfl rfl rfl rfl rfl hO takeZ (cells_own memZ) rfl (by (repeat (first | exact (fun v hv => absurd hv List.not_mem_nil) | (refine List.forall_mem_cons.2 ⟨?_, ?_⟩; (focus (first | exact rfl | assumption))))); first | done | fail) (by omega) (by simp only [maxLen]; omega) (by omega)) rfl rfl rfl ?_
  rintro u1 _ ⟨χ1, hO1, rfl⟩
  have hu2 := hone _ _ _ _ hO1
  refine A4 ?_; rintro _ _ ⟨rfl, rfl⟩
  refine AE ?_
  refine BO (res0 rfl) rsubZ selZ ⟨rfl, u1, χ1, rfl, ?_⟩
  rw [List.length_append, List.flatMap_append]
  exact hO1
 ·rw [if_neg h, List.append_nil]
  refine AD ?_
  refine AA ?_
  refine AF ?_
  refine AB ?_
  refine AW ?_
  refine AE ?_
  refine AM rfl ?_
  refine AL ?_
  exact BO (res0 rfl) rsubZ selZ ⟨rfl, u, χ, rfl, hO⟩
theorem gapsP_at {e : Int} {l : List (Int × Int)} {k : Nat} (h : k < l.length) (a : Int) : gapsP e a (l.drop k) = (if a < l[k].1 then [(a, l[k].1)] else []) ++ gapsP e l[k].2 (l.drop (k + 1)) := by
 rw [List.drop_eq_getElem_cons h]
 rfl
set_option maxHeartbeats 32000000 in
theorem bkFree0_spec {ρ τ σ υ : PH} {pq pc pb ph : Option Addr} {kq kc kb kh : Nat} {qs : List Int} {cs : List Ct} {bs : List Bk} {hs : List Hd} (hT : TbAt ρ τ σ υ pq pc pb ph kq kc kb kh qs cs bs hs) (i : Nat) (x : Ct) (hx : cs[i]? = some x) (hb : firstE (bkE cs bs) bs.length = 0) (hbl : bs.length ≤ 512) :
  Makes Tryz.prog (fv 70) [.agg #[.slice pq qs.length kq, .slice pc cs.length kc], .slice pb bs.length kb, int (i : Int), int x.s] [ρ, τ, σ] (fun r χ => OwnS 61 2 r (freeC cs bs i).length ((freeC cs bs i).flatMap encS) χ) := by
 have hbusy := busy_spec σ _ bs i hT.hb (by omega)
 have hbi := busy_in hb hx
 have hbp := busy_apart hb i
 have hbll := busyL_len bs i
 have hfc : freeC cs bs i = gapsP x.e x.s (busyL bs i) := by unfold freeC; rw [hx]
 have hgl := gapsP_len x.e (busyL bs i) x.s
 have hone : ∀ z n (xs : List Value) (χ : PH), OwnS 61 2 z n xs χ → z.oneCell' = true := fun z n xs χ h => by obtain ⟨_, _, rfl⟩ := h.form; rfl
 rw [hfc]
 have hi := (List.getElem?_eq_some_iff.1 hx).1
 obtain ⟨bq, oq, e4, hrd⟩ := ctRow hT.rc hx
 refine spec_in (cap := []) Tryz.func70 rfl rfl Tryz.ntmps70 rfl envZ (fun N β => ?_)
 refine AD ?_
 refine AA ?_
 refine BJ (BN rfl) rfl rfl rfl ?_
 rintro _ _ ⟨b3, rfl, rfl⟩
 refine AR (ρ := sng b3 _) takeZ ?_
 have c : RdN (sng b3 (.cells #[.slice pq qs.length kq, .slice pc cs.length kc] 25 (0, 0))) b3 0 [.slice pq qs.length kq, .slice pc cs.length kc] := rdN_sng (vs := [.slice pq qs.length kq, .slice pc cs.length kc])
 have c0 : rdc (sng b3 (.cells #[.slice pq qs.length kq, .slice pc cs.length kc] 25 (0, 0))) b3 0 = some (.slice pq qs.length kq) := by rw [rdc_sng]; rfl
 have c1 : rdc (sng b3 (.cells #[.slice pq qs.length kq, .slice pc cs.length kc] 25 (0, 0))) b3 1 = some (.slice pc cs.length kc) := by rw [rdc_sng]; rfl
 refine B9 ?_
 subst e4
 refine AC ?_
 refine AE ?_
 refine AD ?_
 refine AA ?_
 refine AH ?_
 refine AF ?_
 refine AB ?_
 refine BI ?_
 refine AS ?_
 refine AZ ?_; rintro _ _ ⟨b, rfl, rfl⟩
 refine AY ?_; rintro _ _ ⟨rfl, rfl⟩
 refine AE ?_
 refine AD ?_
 refine AA ?_
 refine BK ?_; rintro _ _ ⟨b, rfl, rfl⟩
 refine AE ?_
 refine AD ?_
 refine AA ?_
 refine AH ?_
 refine AF ?_
 refine AB ?_
 refine DR ?_
 refine BK ?_; rintro _ _ ⟨b, rfl, rfl⟩
 refine A4 ?_; rintro _ _ ⟨rfl, rfl⟩
 refine AE ?_
 refine AD ?_
 refine AA ?_
 refine BM ?_
 refine AC ?_
 refine AE ?_
 refine AD ?_
 refine AD ?_
 refine AA ?_
 refine AB ?_
 refine AB ?_
 revert b; intro bA
 revert b; intro bO
 revert b; intro bC
 rw [show max x.s x.s = x.s by omega]
 refine AR (ρ := sng bC _) takeZ ?_
 have g2 : rdc (sng bC (.cells #[int x.f, int x.t, int x.s, int x.e, int x.r, int x.g, int x.l] 70 (0, 0))) bC 3 = some (int x.e) := by rw [rdc_sng]; rfl
 refine BV hbusy rfl rfl rdZ rfl rfl ?_
 rintro w χb hOb
 have hSb := hOb.at
 obtain ⟨pw, kw, rfl⟩ := hOb.form
 obtain ⟨_, _, ew, hrw⟩ := SlE.val (enc := encS) encS_len (show SlE encS 2 χb _ (busyL bs i) from hSb)
 simp only [Value.slice.injEq] at ew
 obtain ⟨rfl, _, rfl⟩ := ew
 refine AR (ρ := χb) takeZ ?_
 generalize busyL bs i = L at hbi hbp hbll hOb hSb hrw hgl
 refine A0 ?_
 refine AB ?_
 refine AE ?_
 refine AQ ?_
 refine BG [2, 12, 27, 28, 9, 10, 11] (X := Nat × Int × List (Int × Int) × Value × PH) (0, x.s, [], .slice none 0 0, emp) (fun z => z.1 ≤ L.length ∧ (∀ y ∈ L.drop z.1, z.2.1 ≤ y.1) ∧ gapsP x.e x.s L = z.2.2.1 ++ gapsP x.e z.2.1 (L.drop z.1) ∧ OwnS 61 2 z.2.2.2.1 z.2.2.1.length (z.2.2.1.flatMap encS) z.2.2.2.2) (fun z => [(29, int z.1)]) (fun z => [sng bA (.cells #[int z.2.1] 3 (0, 0)), sng bO (.cells #[z.2.2.2.1] 59 (0, 0)), z.2.2.2.2]) (fun z => L.length - z.1) pickZ ⟨by dsimp only; omega, fun y hy => by rw [List.drop_zero] at hy; exact (hbi y hy).1, rfl, OwnS.nil _ _⟩ covZ selZ ?_
 rintro ⟨k, a, G, u, χ⟩ ⟨hk, ha, hG, hO⟩
 dsimp only at hk ha hG hO ⊢
 have hGl : G.length ≤ L.length + 1 := by
  have := congrArg List.length hG
  rw [List.length_append] at this
  omega
 by_cases hlt : k < L.length
 ·have hy := List.getElem?_eq_getElem hlt
  have hga := gapsP_at (e := x.e) hlt a
  have hmem := List.getElem_mem hlt
  have hin := hbi _ hmem
  have hak := ha L[k] (by rw [List.drop_eq_getElem_cons hlt]; exact List.mem_cons_self)
  have hpk : ∀ y ∈ L.drop (k + 1), L[k].2 ≤ y.1 := fun y hy => by
   have h1 := List.Pairwise.sublist (List.drop_sublist k L) hbp
   rw [List.drop_eq_getElem_cons hlt] at h1
   exact (List.pairwise_cons.1 h1).1 y hy
  obtain ⟨b6, o6, rfl, hRd6, y0, y1⟩ := spRow hrw hy
  generalize L[k] = y at hy hga hin hak hpk hRd6 y0 y1
  have hadd := freeAdd_spec bA bO a y.1 u G χ hO (by omega)
  refine AD ?_
  refine AA ?_
  refine BD ?_
  refine AE ?_
  refine AD ?_
  refine AP rfl ?_
  refine AL ?_
  refine AD ?_
  refine AQ ?_
  refine AD ?_
  refine AA ?_
  refine BI ?_
  refine AS ?_
  refine AZ ?_; rintro _ _ ⟨b, rfl, rfl⟩
  refine AY ?_; rintro _ _ ⟨rfl, rfl⟩
  refine AE ?_
  refine AD ?_
  refine AA ?_
  refine AB ?_
  refine AH ?_
  refine AF ?_
  revert b; intro b14
  refine BB hadd rfl rfl takesZ rdZ rfl rfl ?_
  rintro _ _ ⟨rfl, u', χ', rfl, hO'⟩
  have hmx : max a y.2 = y.2 := by omega
  refine AE ?_
  refine AA ?_
  refine AF ?_
  refine AH ?_
  refine AF ?_
  refine DR ?_
  focus ((rw [hmx]))
  refine A4 ?_; rintro _ _ ⟨rfl, rfl⟩
  refine AE ?_
  refine A3 ?_
  refine AA ?_
  refine BC ?_
  refine AB ?_
  refine AE ?_
  refine AX (k + 1, y.2, G ++ (if a < y.1 then [(a, y.1)] else []), u', χ') ⟨by dsimp only; omega, hpk, ?_, hO'⟩ (by dsimp only; omega) covZ selZ
  dsimp only
  rw [hG, hga, List.append_assoc]
 ·have hke : k = L.length := by omega
  subst hke
  have hadd := freeAdd_spec bA bO a x.e u G χ hO (by omega)
  have hfin : gapsP x.e x.s L = G ++ (if a < x.e then [(a, x.e)] else []) := by
   rw [hG, List.drop_length]
   rfl
  rw [hfin]
  refine AD ?_
  refine AA ?_
  refine AW ?_
  refine AE ?_
  refine AD ?_
  refine AM rfl ?_
  refine A9 rfl ?_
  refine AD ?_
  refine AA ?_
  refine AB ?_
  refine AH ?_
  refine AF ?_
  refine BB hadd rfl rfl takesZ rdZ rfl rfl ?_
  rintro _ _ ⟨rfl, u', χ', rfl, hO'⟩
  refine AE ?_
  refine AD ?_
  refine AA ?_
  refine AF ?_
  refine AC ?_
  refine AE ?_
  exact AI (res1 rfl rfl) rsubZ selZ ⟨χ', hO', rfl⟩
theorem bkFree_spec {ρ τ σ υ : PH} {pq pc pb ph : Option Addr} {kq kc kb kh : Nat} {qs : List Int} {cs : List Ct} {bs : List Bk} {hs : List Hd} (hT : TbAt ρ τ σ υ pq pc pb ph kq kc kb kh qs cs bs hs) (i : Nat) (x : Ct) (hx : cs[i]? = some x) (h0 : chkB qs cs bs = 0) :
  Makes Tryz.prog (fv 32) [.agg #[.slice pq qs.length kq, .slice pc cs.length kc], .slice pb bs.length kb, int (i : Int)] [ρ, τ, σ] (fun r χ => ∃ u, r = .tuple #[u, int 0] ∧ OwnS 61 2 u (freeC cs bs i).length ((freeC cs bs i).flatMap encS) χ) := by
 obtain ⟨hbl, hb⟩ := chkB_ok h0
 have hck := bkCheck0_spec hT i h0 (List.getElem?_eq_some_iff.1 hx).1
 have hfr := bkFree0_spec hT i x hx hb hbl
 have hi := (List.getElem?_eq_some_iff.1 hx).1
 obtain ⟨bq, oq, e4, hrd⟩ := ctRow hT.rc hx
 have g2 : rdc τ bq (oq + i * 7 + 2) = some (int x.s) := hrd.get (j := 2) rfl
 refine spec_in (cap := []) Tryz.func32 rfl rfl Tryz.ntmps32 rfl envZ (fun N β => ?_)
 refine AD ?_
 refine AA ?_
 refine BJ (BN rfl) rfl rfl rfl ?_
 rintro _ _ ⟨b3, rfl, rfl⟩
 refine AR (ρ := sng b3 _) takeZ ?_
 have c : RdN (sng b3 (.cells #[.slice pq qs.length kq, .slice pc cs.length kc] 25 (0, 0))) b3 0 [.slice pq qs.length kq, .slice pc cs.length kc] := rdN_sng (vs := [.slice pq qs.length kq, .slice pc cs.length kc])
 have c0 : rdc (sng b3 (.cells #[.slice pq qs.length kq, .slice pc cs.length kc] 25 (0, 0))) b3 0 = some (.slice pq qs.length kq) := by rw [rdc_sng]; rfl
 have c1 : rdc (sng b3 (.cells #[.slice pq qs.length kq, .slice pc cs.length kc] 25 (0, 0))) b3 1 = some (.slice pc cs.length kc) := by rw [rdc_sng]; rfl
 subst e4
 refine AC ?_
 refine AC ?_
 refine AE ?_
 refine AD ?_
 refine AD ?_
 refine AA ?_
 refine AS ?_
 refine AB ?_
 refine AB ?_
 refine A2 hck rfl rfl rdZ rfl rfl ?_
 rintro _ rfl
 refine AC ?_
 refine AE ?_
 refine AD ?_
 refine AA ?_
 refine AB ?_
 refine BA ?_
 refine AE ?_
 refine AM rfl ?_
 refine AL ?_
 refine AD ?_
 refine A5 (.q 0 (.q 1 (.q 2 (.q 3 (.q 4 (.q 5 (.q 6 (.q 7 (.q 8 (.l 9 .e (.q 10 (.q 11 .nil)))))))))))) [] rfl (by kernel_rfl) Sel.nil ?_
 refine BW ?_
 refine AT ?_
 refine AT ?_
 refine AU ?_
 refine AO ?_
 refine AT ?_
 refine B6 ?_
 refine CK ?_
 refine AO ?_
 refine CO (DI rfl hfr rfl rfl rdZ rfl rfl ?_)
 rintro u _ ⟨χ, hO, rfl⟩
 refine BL ?_
 refine BL ?_
 refine A7 ?_
 skip
 exact AI (res2 rfl rfl rfl) rsubZ selZ ⟨χ, ⟨u, rfl, hO⟩, rfl⟩
end Go.Proofs.YthdoegkjifgegaaGreat
/- The network made. -/
namespace Go.Proofs.YthdoegkjifgegaaGreat
open Go.Eng Go.Step
set_option maxRecDepth 100000
set_option maxHeartbeats 4000000

theorem exValid_spec {ρ τ σ υ : PH} {pq pc pb ph : Option Addr} {kq kc kb kh : Nat} {qs : List Int} {cs : List Ct} {bs : List Bk} {hs : List Hd} (hT : TbAt ρ τ σ υ pq pc pb ph kq kc kb kh qs cs bs hs) (d : Dm) :
  Ans Tryz.prog (fv 84) [.agg #[.slice pq qs.length kq, .slice pc cs.length kc, .slice pb bs.length kb, .slice ph hs.length kh], .agg #[int d.s, int d.d, int d.v, int d.r, int d.e]] [ρ, τ, σ, υ] (fun r => r = .bool (validT qs cs bs hs d)) := by
 refine spec_in (cap := []) Tryz.func84 rfl rfl Tryz.ntmps84 rfl envZ (fun N β => ?_)
 refine AD ?_
 refine AA ?_
 refine BJ (BN rfl) rfl rfl rfl ?_
 rintro _ _ ⟨b1, rfl, rfl⟩
 refine AR (ρ := sng b1 _) takeZ ?_
 have ct : RdN (sng b1 (.cells #[.slice pq qs.length kq, .slice pc cs.length kc, .slice pb bs.length kb, .slice ph hs.length kh] 29 (0, 0))) b1 0 [.slice pq qs.length kq, .slice pc cs.length kc, .slice pb bs.length kb, .slice ph hs.length kh] := rdN_sng (vs := [.slice pq qs.length kq, .slice pc cs.length kc, .slice pb bs.length kb, .slice ph hs.length kh])
 have ct0 : rdc (sng b1 (.cells #[.slice pq qs.length kq, .slice pc cs.length kc, .slice pb bs.length kb, .slice ph hs.length kh] 29 (0, 0))) b1 0 = some (.slice pq qs.length kq) := by rw [rdc_sng]; rfl
 have ct1 : rdc (sng b1 (.cells #[.slice pq qs.length kq, .slice pc cs.length kc, .slice pb bs.length kb, .slice ph hs.length kh] 29 (0, 0))) b1 1 = some (.slice pc cs.length kc) := by rw [rdc_sng]; rfl
 have ct2 : rdc (sng b1 (.cells #[.slice pq qs.length kq, .slice pc cs.length kc, .slice pb bs.length kb, .slice ph hs.length kh] 29 (0, 0))) b1 2 = some (.slice pb bs.length kb) := by rw [rdc_sng]; rfl
 have ct3 : rdc (sng b1 (.cells #[.slice pq qs.length kq, .slice pc cs.length kc, .slice pb bs.length kb, .slice ph hs.length kh] 29 (0, 0))) b1 3 = some (.slice ph hs.length kh) := by rw [rdc_sng]; rfl
 have ctp : RdP (sng b1 (.cells #[.slice pq qs.length kq, .slice pc cs.length kc, .slice pb bs.length kb, .slice ph hs.length kh] 29 (0, 0))) b1 0 [.slice pq qs.length kq, .slice pc cs.length kc] := rdP_sng (xs := [.slice pq qs.length kq, .slice pc cs.length kc, .slice pb bs.length kb, .slice ph hs.length kh]) rfl
 refine BJ (BN rfl) rfl rfl rfl ?_
 rintro _ _ ⟨b2, rfl, rfl⟩
 refine AR (ρ := sng b2 _) takeZ ?_
 have cd : RdN (sng b2 (.cells #[int d.s, int d.d, int d.v, int d.r, int d.e] 31 (0, 0))) b2 0 [int d.s, int d.d, int d.v, int d.r, int d.e] := rdN_sng (vs := [int d.s, int d.d, int d.v, int d.r, int d.e])
 have cd0 : rdc (sng b2 (.cells #[int d.s, int d.d, int d.v, int d.r, int d.e] 31 (0, 0))) b2 0 = some (int d.s) := by rw [rdc_sng]; rfl
 have cd1 : rdc (sng b2 (.cells #[int d.s, int d.d, int d.v, int d.r, int d.e] 31 (0, 0))) b2 1 = some (int d.d) := by rw [rdc_sng]; rfl
 have cd2 : rdc (sng b2 (.cells #[int d.s, int d.d, int d.v, int d.r, int d.e] 31 (0, 0))) b2 2 = some (int d.v) := by rw [rdc_sng]; rfl
 have cd3 : rdc (sng b2 (.cells #[int d.s, int d.d, int d.v, int d.r, int d.e] 31 (0, 0))) b2 3 = some (int d.r) := by rw [rdc_sng]; rfl
 have cd4 : rdc (sng b2 (.cells #[int d.s, int d.d, int d.v, int d.r, int d.e] 31 (0, 0))) b2 4 = some (int d.e) := by rw [rdc_sng]; rfl
 refine AC ?_
 refine AE ?_
 refine AD ?_
 refine AA ?_
 refine AH ?_
 refine AH ?_
 refine AF ?_
 refine A0 ?_
 refine AC ?_
 refine AE ?_
 refine AD ?_
 refine AD ?_
 refine AA ?_
 refine AS ?_
 refine A2 (chkTab_spec hT) rfl rfl rdZ rfl rfl ?_
 rintro _ rfl
 by_cases h0 : chkT qs cs bs hs = 0
 rotate_left
 ·have hv : validT qs cs bs hs d = false := decide_eq_false (fun h => h0 h.1)
  rw [hv]
  generalize chkT qs cs bs hs = z at h0
  refine CV ?_
  refine AB ?_
  refine AG rfl rfl rfl ?_
  refine AG rfl rfl rfl ?_
  refine AG rfl rfl rfl ?_
  refine AK ?_
  refine AB ?_
  refine AG rfl rfl rfl ?_
  refine AG rfl rfl rfl ?_
  refine AG rfl rfl rfl ?_
  refine AG rfl rfl rfl ?_
  refine AK ?_
  refine AB ?_
  refine AG rfl rfl rfl ?_
  refine AG rfl rfl rfl ?_
  refine AG rfl rfl rfl ?_
  refine AK ?_
  refine AB ?_
  refine AG rfl rfl rfl ?_
  refine AG rfl rfl rfl ?_
  refine AG rfl rfl rfl ?_
  refine AG rfl rfl rfl ?_
  refine AK ?_
  refine AB ?_
  refine AG rfl rfl rfl ?_
  refine AG rfl rfl rfl ?_
  refine AG rfl rfl rfl ?_
  refine AG rfl rfl rfl ?_
  refine AG rfl rfl rfl ?_
  refine AK ?_
  refine AE ?_
  refine AP rfl ?_
  refine AD ?_
  refine AA ?_
  refine AC ?_
  refine AE ?_
  exact AI (res1 rfl rfl) rsubZ selZ ⟨rfl, rfl⟩
 rw [h0]
 have hbad : ¬ okDm qs.length d → validT qs cs bs hs d = false := fun h => decide_eq_false (fun k => h k.2)
 by_cases hs1 : 0 ≤ d.s
 rotate_left
 ·rw [hbad (fun h => by unfold okDm at h; omega)]
  refine BA ?_
  refine AB ?_
  refine AH ?_
  refine AF ?_
  refine BD ?_
  refine AJ ?_
  refine AB ?_
  refine AG rfl rfl rfl ?_
  refine AG rfl rfl rfl ?_
  refine AG rfl rfl rfl ?_
  refine AG rfl rfl rfl ?_
  refine AK ?_
  refine AB ?_
  refine AG rfl rfl rfl ?_
  refine AG rfl rfl rfl ?_
  refine AG rfl rfl rfl ?_
  refine AK ?_
  refine AB ?_
  refine AG rfl rfl rfl ?_
  refine AG rfl rfl rfl ?_
  refine AG rfl rfl rfl ?_
  refine AG rfl rfl rfl ?_
  refine AK ?_
  refine AB ?_
  refine AG rfl rfl rfl ?_
  refine AG rfl rfl rfl ?_
  refine AG rfl rfl rfl ?_
  refine AG rfl rfl rfl ?_
  refine AG rfl rfl rfl ?_
  refine AK ?_
  refine AE ?_
  refine AP rfl ?_
  refine AD ?_
  refine AA ?_
  refine AC ?_
  refine AE ?_
  exact AI (res1 rfl rfl) rsubZ selZ ⟨rfl, rfl⟩
 by_cases hs2 : d.s < (qs.length : Int)
 rotate_left
 ·rw [hbad (fun h => by unfold okDm at h; omega)]
  refine BA ?_
  refine AB ?_
  refine AH ?_
  refine AF ?_
  refine AW ?_
  refine AJ ?_
  refine AB ?_
  refine AH ?_
  refine AF ?_
  refine AB ?_
  refine B4 ?_
  refine AJ ?_
  refine AB ?_
  refine AG rfl rfl rfl ?_
  refine AG rfl rfl rfl ?_
  refine AG rfl rfl rfl ?_
  refine AK ?_
  refine AB ?_
  refine AG rfl rfl rfl ?_
  refine AG rfl rfl rfl ?_
  refine AG rfl rfl rfl ?_
  refine AG rfl rfl rfl ?_
  refine AK ?_
  refine AB ?_
  refine AG rfl rfl rfl ?_
  refine AG rfl rfl rfl ?_
  refine AG rfl rfl rfl ?_
  refine AG rfl rfl rfl ?_
  refine AG rfl rfl rfl ?_
  refine AK ?_
  refine AE ?_
  refine AP rfl ?_
  refine AD ?_
  refine AA ?_
  refine AC ?_
  refine AE ?_
  exact AI (res1 rfl rfl) rsubZ selZ ⟨rfl, rfl⟩
 by_cases hd1 : 0 ≤ d.d
 rotate_left
 ·rw [hbad (fun h => by unfold okDm at h; omega)]
  refine BA ?_
  refine AB ?_
  refine AH ?_
  refine AF ?_
  refine AW ?_
  refine AJ ?_
  refine AB ?_
  refine AH ?_
  refine AF ?_
  refine AB ?_
  refine BE ?_
  refine AJ ?_
  refine AB ?_
  refine AH ?_
  refine AF ?_
  refine BD ?_
  refine AJ ?_
  refine AB ?_
  refine AG rfl rfl rfl ?_
  refine AG rfl rfl rfl ?_
  refine AG rfl rfl rfl ?_
  refine AG rfl rfl rfl ?_
  refine AK ?_
  refine AB ?_
  refine AG rfl rfl rfl ?_
  refine AG rfl rfl rfl ?_
  refine AG rfl rfl rfl ?_
  refine AG rfl rfl rfl ?_
  refine AG rfl rfl rfl ?_
  refine AK ?_
  refine AE ?_
  refine AP rfl ?_
  refine AD ?_
  refine AA ?_
  refine AC ?_
  refine AE ?_
  exact AI (res1 rfl rfl) rsubZ selZ ⟨rfl, rfl⟩
 by_cases hd2 : d.d < (qs.length : Int)
 rotate_left
 ·rw [hbad (fun h => by unfold okDm at h; omega)]
  refine BA ?_
  refine AB ?_
  refine AH ?_
  refine AF ?_
  refine AW ?_
  refine AJ ?_
  refine AB ?_
  refine AH ?_
  refine AF ?_
  refine AB ?_
  refine BE ?_
  refine AJ ?_
  refine AB ?_
  refine AH ?_
  refine AF ?_
  refine AW ?_
  refine AJ ?_
  refine AB ?_
  refine AH ?_
  refine AF ?_
  refine AB ?_
  refine B4 ?_
  refine AJ ?_
  refine AB ?_
  refine AG rfl rfl rfl ?_
  refine AG rfl rfl rfl ?_
  refine AG rfl rfl rfl ?_
  refine AG rfl rfl rfl ?_
  refine AG rfl rfl rfl ?_
  refine AK ?_
  refine AE ?_
  refine AP rfl ?_
  refine AD ?_
  refine AA ?_
  refine AC ?_
  refine AE ?_
  exact AI (res1 rfl rfl) rsubZ selZ ⟨rfl, rfl⟩
 by_cases h3 : d.s ≠ d.d
 rotate_left
 ·rw [hbad (fun h => by unfold okDm at h; omega)]
  refine BA ?_
  refine AB ?_
  refine AH ?_
  refine AF ?_
  refine AW ?_
  refine AJ ?_
  refine AB ?_
  refine AH ?_
  refine AF ?_
  refine AB ?_
  refine BE ?_
  refine AJ ?_
  refine AB ?_
  refine AH ?_
  refine AF ?_
  refine AW ?_
  refine AJ ?_
  refine AB ?_
  refine AH ?_
  refine AF ?_
  refine AB ?_
  refine BE ?_
  refine AJ ?_
  refine AB ?_
  refine AH ?_
  refine AF ?_
  refine AH ?_
  refine AF ?_
  refine CB ?_
  refine AJ ?_
  refine AE ?_
  refine AP rfl ?_
  refine AD ?_
  refine AA ?_
  refine AC ?_
  refine AE ?_
  exact AI (res1 rfl rfl) rsubZ selZ ⟨rfl, rfl⟩
 by_cases h4 : 1 ≤ d.v
 rotate_left
 ·rw [hbad (fun h => by unfold okDm at h; omega)]
  refine BA ?_
  refine AB ?_
  refine AH ?_
  refine AF ?_
  refine AW ?_
  refine AJ ?_
  refine AB ?_
  refine AH ?_
  refine AF ?_
  refine AB ?_
  refine BE ?_
  refine AJ ?_
  refine AB ?_
  refine AH ?_
  refine AF ?_
  refine AW ?_
  refine AJ ?_
  refine AB ?_
  refine AH ?_
  refine AF ?_
  refine AB ?_
  refine BE ?_
  refine AJ ?_
  refine AB ?_
  refine AH ?_
  refine AF ?_
  refine AH ?_
  refine AF ?_
  refine BZ ?_
  refine AJ ?_
  refine AE ?_
  refine AM rfl ?_
  refine AL ?_
  refine AD ?_
  refine AA ?_
  refine AH ?_
  refine AF ?_
  refine BE ?_
  refine AB ?_
  refine AG rfl rfl rfl ?_
  refine AG rfl rfl rfl ?_
  refine AG rfl rfl rfl ?_
  refine AJ ?_
  refine AB ?_
  refine AG rfl rfl rfl ?_
  refine AG rfl rfl rfl ?_
  refine AG rfl rfl rfl ?_
  refine AJ ?_
  refine AB ?_
  refine AG rfl rfl rfl ?_
  refine AG rfl rfl rfl ?_
  refine AG rfl rfl rfl ?_
  refine AG rfl rfl rfl ?_
  refine AG rfl rfl rfl ?_
  refine AJ ?_
  refine AB ?_
  refine AG rfl rfl rfl ?_
  refine AG rfl rfl rfl ?_
  refine AG rfl rfl rfl ?_
  refine AJ ?_
  refine AB ?_
  refine AG rfl rfl rfl ?_
  refine AG rfl rfl rfl ?_
  refine AG rfl rfl rfl ?_
  refine AG rfl rfl rfl ?_
  refine AG rfl rfl rfl ?_
  refine AG rfl rfl rfl ?_
  refine AJ ?_
  refine AC ?_
  refine AE ?_
  exact AI (res1 rfl rfl) rsubZ selZ ⟨rfl, rfl⟩
 by_cases h5 : d.v ≤ 1099511627776
 rotate_left
 ·rw [hbad (fun h => by unfold okDm at h; omega)]
  refine BA ?_
  refine AB ?_
  refine AH ?_
  refine AF ?_
  refine AW ?_
  refine AJ ?_
  refine AB ?_
  refine AH ?_
  refine AF ?_
  refine AB ?_
  refine BE ?_
  refine AJ ?_
  refine AB ?_
  refine AH ?_
  refine AF ?_
  refine AW ?_
  refine AJ ?_
  refine AB ?_
  refine AH ?_
  refine AF ?_
  refine AB ?_
  refine BE ?_
  refine AJ ?_
  refine AB ?_
  refine AH ?_
  refine AF ?_
  refine AH ?_
  refine AF ?_
  refine BZ ?_
  refine AJ ?_
  refine AE ?_
  refine AM rfl ?_
  refine AL ?_
  refine AD ?_
  refine AA ?_
  refine AH ?_
  refine AF ?_
  refine B4 ?_
  refine AB ?_
  refine AH ?_
  refine AF ?_
  refine CQ ?_
  refine AK ?_
  refine AB ?_
  refine AG rfl rfl rfl ?_
  refine AG rfl rfl rfl ?_
  refine AG rfl rfl rfl ?_
  refine AJ ?_
  refine AB ?_
  refine AG rfl rfl rfl ?_
  refine AG rfl rfl rfl ?_
  refine AG rfl rfl rfl ?_
  refine AG rfl rfl rfl ?_
  refine AG rfl rfl rfl ?_
  refine AJ ?_
  refine AB ?_
  refine AG rfl rfl rfl ?_
  refine AG rfl rfl rfl ?_
  refine AG rfl rfl rfl ?_
  refine AJ ?_
  refine AB ?_
  refine AG rfl rfl rfl ?_
  refine AG rfl rfl rfl ?_
  refine AG rfl rfl rfl ?_
  refine AG rfl rfl rfl ?_
  refine AG rfl rfl rfl ?_
  refine AG rfl rfl rfl ?_
  refine AJ ?_
  refine AC ?_
  refine AE ?_
  exact AI (res1 rfl rfl) rsubZ selZ ⟨rfl, rfl⟩
 by_cases h6 : 0 ≤ d.r
 rotate_left
 ·rw [hbad (fun h => by unfold okDm at h; omega)]
  refine BA ?_
  refine AB ?_
  refine AH ?_
  refine AF ?_
  refine AW ?_
  refine AJ ?_
  refine AB ?_
  refine AH ?_
  refine AF ?_
  refine AB ?_
  refine BE ?_
  refine AJ ?_
  refine AB ?_
  refine AH ?_
  refine AF ?_
  refine AW ?_
  refine AJ ?_
  refine AB ?_
  refine AH ?_
  refine AF ?_
  refine AB ?_
  refine BE ?_
  refine AJ ?_
  refine AB ?_
  refine AH ?_
  refine AF ?_
  refine AH ?_
  refine AF ?_
  refine BZ ?_
  refine AJ ?_
  refine AE ?_
  refine AM rfl ?_
  refine AL ?_
  refine AD ?_
  refine AA ?_
  refine AH ?_
  refine AF ?_
  refine B4 ?_
  refine AB ?_
  refine AH ?_
  refine AF ?_
  refine CL ?_
  refine AK ?_
  refine AB ?_
  refine AH ?_
  refine AF ?_
  refine BE ?_
  refine AK ?_
  refine AB ?_
  refine AG rfl rfl rfl ?_
  refine AG rfl rfl rfl ?_
  refine AG rfl rfl rfl ?_
  refine AG rfl rfl rfl ?_
  refine AG rfl rfl rfl ?_
  refine AJ ?_
  refine AB ?_
  refine AG rfl rfl rfl ?_
  refine AG rfl rfl rfl ?_
  refine AG rfl rfl rfl ?_
  refine AJ ?_
  refine AB ?_
  refine AG rfl rfl rfl ?_
  refine AG rfl rfl rfl ?_
  refine AG rfl rfl rfl ?_
  refine AG rfl rfl rfl ?_
  refine AG rfl rfl rfl ?_
  refine AG rfl rfl rfl ?_
  refine AJ ?_
  refine AC ?_
  refine AE ?_
  exact AI (res1 rfl rfl) rsubZ selZ ⟨rfl, rfl⟩
 by_cases h7 : d.r < d.e
 rotate_left
 ·rw [hbad (fun h => by unfold okDm at h; omega)]
  refine BA ?_
  refine AB ?_
  refine AH ?_
  refine AF ?_
  refine AW ?_
  refine AJ ?_
  refine AB ?_
  refine AH ?_
  refine AF ?_
  refine AB ?_
  refine BE ?_
  refine AJ ?_
  refine AB ?_
  refine AH ?_
  refine AF ?_
  refine AW ?_
  refine AJ ?_
  refine AB ?_
  refine AH ?_
  refine AF ?_
  refine AB ?_
  refine BE ?_
  refine AJ ?_
  refine AB ?_
  refine AH ?_
  refine AF ?_
  refine AH ?_
  refine AF ?_
  refine BZ ?_
  refine AJ ?_
  refine AE ?_
  refine AM rfl ?_
  refine AL ?_
  refine AD ?_
  refine AA ?_
  refine AH ?_
  refine AF ?_
  refine B4 ?_
  refine AB ?_
  refine AH ?_
  refine AF ?_
  refine CL ?_
  refine AK ?_
  refine AB ?_
  refine AH ?_
  refine AF ?_
  refine B4 ?_
  refine AK ?_
  refine AB ?_
  refine AH ?_
  refine AF ?_
  refine AH ?_
  refine AF ?_
  refine AW ?_
  refine AK ?_
  refine AB ?_
  refine AG rfl rfl rfl ?_
  refine AG rfl rfl rfl ?_
  refine AG rfl rfl rfl ?_
  refine AJ ?_
  refine AB ?_
  refine AG rfl rfl rfl ?_
  refine AG rfl rfl rfl ?_
  refine AG rfl rfl rfl ?_
  refine AG rfl rfl rfl ?_
  refine AG rfl rfl rfl ?_
  refine AG rfl rfl rfl ?_
  refine AJ ?_
  refine AC ?_
  refine AE ?_
  exact AI (res1 rfl rfl) rsubZ selZ ⟨rfl, rfl⟩
 by_cases h8 : d.e ≤ 1099511627776
 rotate_left
 ·rw [hbad (fun h => by unfold okDm at h; omega)]
  refine BA ?_
  refine AB ?_
  refine AH ?_
  refine AF ?_
  refine AW ?_
  refine AJ ?_
  refine AB ?_
  refine AH ?_
  refine AF ?_
  refine AB ?_
  refine BE ?_
  refine AJ ?_
  refine AB ?_
  refine AH ?_
  refine AF ?_
  refine AW ?_
  refine AJ ?_
  refine AB ?_
  refine AH ?_
  refine AF ?_
  refine AB ?_
  refine BE ?_
  refine AJ ?_
  refine AB ?_
  refine AH ?_
  refine AF ?_
  refine AH ?_
  refine AF ?_
  refine BZ ?_
  refine AJ ?_
  refine AE ?_
  refine AM rfl ?_
  refine AL ?_
  refine AD ?_
  refine AA ?_
  refine AH ?_
  refine AF ?_
  refine B4 ?_
  refine AB ?_
  refine AH ?_
  refine AF ?_
  refine CL ?_
  refine AK ?_
  refine AB ?_
  refine AH ?_
  refine AF ?_
  refine B4 ?_
  refine AK ?_
  refine AB ?_
  refine AH ?_
  refine AF ?_
  refine AH ?_
  refine AF ?_
  refine BD ?_
  refine AK ?_
  refine AB ?_
  refine AH ?_
  refine AF ?_
  refine CQ ?_
  refine AK ?_
  refine AB ?_
  refine AG rfl rfl rfl ?_
  refine AG rfl rfl rfl ?_
  refine AG rfl rfl rfl ?_
  refine AG rfl rfl rfl ?_
  refine AG rfl rfl rfl ?_
  refine AG rfl rfl rfl ?_
  refine AJ ?_
  refine AC ?_
  refine AE ?_
  exact AI (res1 rfl rfl) rsubZ selZ ⟨rfl, rfl⟩
 by_cases h9 : d.e - d.r ≤ 100
 rotate_left
 ·rw [hbad (fun h => by unfold okDm at h; omega)]
  refine BA ?_
  refine AB ?_
  refine AH ?_
  refine AF ?_
  refine AW ?_
  refine AJ ?_
  refine AB ?_
  refine AH ?_
  refine AF ?_
  refine AB ?_
  refine BE ?_
  refine AJ ?_
  refine AB ?_
  refine AH ?_
  refine AF ?_
  refine AW ?_
  refine AJ ?_
  refine AB ?_
  refine AH ?_
  refine AF ?_
  refine AB ?_
  refine BE ?_
  refine AJ ?_
  refine AB ?_
  refine AH ?_
  refine AF ?_
  refine AH ?_
  refine AF ?_
  refine BZ ?_
  refine AJ ?_
  refine AE ?_
  refine AM rfl ?_
  refine AL ?_
  refine AD ?_
  refine AA ?_
  refine AH ?_
  refine AF ?_
  refine B4 ?_
  refine AB ?_
  refine AH ?_
  refine AF ?_
  refine CL ?_
  refine AK ?_
  refine AB ?_
  refine AH ?_
  refine AF ?_
  refine B4 ?_
  refine AK ?_
  refine AB ?_
  refine AH ?_
  refine AF ?_
  refine AH ?_
  refine AF ?_
  refine BD ?_
  refine AK ?_
  refine AB ?_
  refine AH ?_
  refine AF ?_
  refine CL ?_
  refine AK ?_
  refine AB ?_
  refine AH ?_
  refine AF ?_
  refine AH ?_
  refine AF ?_
  refine CY ?_
  refine CQ ?_
  refine AK ?_
  refine AC ?_
  refine AE ?_
  exact AI (res1 rfl rfl) rsubZ selZ ⟨rfl, rfl⟩
 have hv : validT qs cs bs hs d = true := decide_eq_true ⟨h0, by unfold okDm; omega⟩
 rw [hv]
 refine BA ?_
 refine AB ?_
 refine AH ?_
 refine AF ?_
 refine AW ?_
 refine AJ ?_
 refine AB ?_
 refine AH ?_
 refine AF ?_
 refine AB ?_
 refine BE ?_
 refine AJ ?_
 refine AB ?_
 refine AH ?_
 refine AF ?_
 refine AW ?_
 refine AJ ?_
 refine AB ?_
 refine AH ?_
 refine AF ?_
 refine AB ?_
 refine BE ?_
 refine AJ ?_
 refine AB ?_
 refine AH ?_
 refine AF ?_
 refine AH ?_
 refine AF ?_
 refine BZ ?_
 refine AJ ?_
 refine AE ?_
 refine AM rfl ?_
 refine AL ?_
 refine AD ?_
 refine AA ?_
 refine AH ?_
 refine AF ?_
 refine B4 ?_
 refine AB ?_
 refine AH ?_
 refine AF ?_
 refine CL ?_
 refine AK ?_
 refine AB ?_
 refine AH ?_
 refine AF ?_
 refine B4 ?_
 refine AK ?_
 refine AB ?_
 refine AH ?_
 refine AF ?_
 refine AH ?_
 refine AF ?_
 refine BD ?_
 refine AK ?_
 refine AB ?_
 refine AH ?_
 refine AF ?_
 refine CL ?_
 refine AK ?_
 refine AB ?_
 refine AH ?_
 refine AF ?_
 refine AH ?_
 refine AF ?_
 refine CY ?_
 refine CL ?_
 refine AK ?_
 refine AC ?_
 refine AE ?_
 exact AI (res1 rfl rfl) rsubZ selZ ⟨rfl, rfl⟩
set_option maxHeartbeats 32000000 in
theorem build_spec {ρ τ σ υ : PH} {pq pc pb ph : Option Addr} {kq kc kb kh : Nat} {qs : List Int} {cs : List Ct} {bs : List Bk} {hs : List Hd} (hT : TbAt ρ τ σ υ pq pc pb ph kq kc kb kh qs cs bs hs) (d : Dm) :
  Eng.Spec Tryz.prog (fv 39) [.agg #[.slice pq qs.length kq, .slice pc cs.length kc, .slice pb bs.length kb, .slice ph hs.length kh], .agg #[int d.s, int d.d, int d.v, int d.r, int d.e]] [ρ, τ, σ, υ] [] (fun r H' => (validT qs cs bs hs d = false ∧ r = .tuple #[.pointer none, .bool false] ∧ H' = []) ∨ (validT qs cs bs hs d = true ∧ ∃ bw bm u χ M, r = .tuple #[.pointer (some ⟨bw, 0, none⟩), .bool true] ∧ H' = [sng bw (.cells #[.slice pq qs.length kq, .slice pc cs.length kc, .slice pb bs.length kb, .slice ph hs.length kh, int d.s, int d.d, int d.v, int d.r, int d.e, u, .map (some bm)] 97 (0, 0)), sng bm (mapS M), χ] ∧ OwnS 99 2 u (placesA d qs.length).length ((placesA d qs.length).flatMap encS) χ ∧ NumAt d qs.length d.r M)) := by
 have hval := exValid_spec hT d
 have hone : ∀ z n (xs : List Value) (χ : PH), OwnS 99 2 z n xs χ → z.oneCell' = true := fun z n xs χ h => by obtain ⟨_, _, rfl⟩ := h.form; rfl
 refine spec_in (cap := []) Tryz.func39 rfl rfl Tryz.ntmps39 rfl envZ (fun N β => ?_)
 refine AD ?_
 refine AA ?_
 refine BJ (BN rfl) rfl rfl rfl ?_
 rintro _ _ ⟨b1, rfl, rfl⟩
 refine AR (ρ := sng b1 _) takeZ ?_
 have ct : RdN (sng b1 (.cells #[.slice pq qs.length kq, .slice pc cs.length kc, .slice pb bs.length kb, .slice ph hs.length kh] 29 (0, 0))) b1 0 [.slice pq qs.length kq, .slice pc cs.length kc, .slice pb bs.length kb, .slice ph hs.length kh] := rdN_sng (vs := [.slice pq qs.length kq, .slice pc cs.length kc, .slice pb bs.length kb, .slice ph hs.length kh])
 have ct0 : rdc (sng b1 (.cells #[.slice pq qs.length kq, .slice pc cs.length kc, .slice pb bs.length kb, .slice ph hs.length kh] 29 (0, 0))) b1 0 = some (.slice pq qs.length kq) := by rw [rdc_sng]; rfl
 have ct1 : rdc (sng b1 (.cells #[.slice pq qs.length kq, .slice pc cs.length kc, .slice pb bs.length kb, .slice ph hs.length kh] 29 (0, 0))) b1 1 = some (.slice pc cs.length kc) := by rw [rdc_sng]; rfl
 have ct2 : rdc (sng b1 (.cells #[.slice pq qs.length kq, .slice pc cs.length kc, .slice pb bs.length kb, .slice ph hs.length kh] 29 (0, 0))) b1 2 = some (.slice pb bs.length kb) := by rw [rdc_sng]; rfl
 have ct3 : rdc (sng b1 (.cells #[.slice pq qs.length kq, .slice pc cs.length kc, .slice pb bs.length kb, .slice ph hs.length kh] 29 (0, 0))) b1 3 = some (.slice ph hs.length kh) := by rw [rdc_sng]; rfl
 have ctp : RdP (sng b1 (.cells #[.slice pq qs.length kq, .slice pc cs.length kc, .slice pb bs.length kb, .slice ph hs.length kh] 29 (0, 0))) b1 0 [.slice pq qs.length kq, .slice pc cs.length kc] := rdP_sng (xs := [.slice pq qs.length kq, .slice pc cs.length kc, .slice pb bs.length kb, .slice ph hs.length kh]) rfl
 refine BJ (BN rfl) rfl rfl rfl ?_
 rintro _ _ ⟨b2, rfl, rfl⟩
 refine AR (ρ := sng b2 _) takeZ ?_
 have cd : RdN (sng b2 (.cells #[int d.s, int d.d, int d.v, int d.r, int d.e] 31 (0, 0))) b2 0 [int d.s, int d.d, int d.v, int d.r, int d.e] := rdN_sng (vs := [int d.s, int d.d, int d.v, int d.r, int d.e])
 have cd0 : rdc (sng b2 (.cells #[int d.s, int d.d, int d.v, int d.r, int d.e] 31 (0, 0))) b2 0 = some (int d.s) := by rw [rdc_sng]; rfl
 have cd1 : rdc (sng b2 (.cells #[int d.s, int d.d, int d.v, int d.r, int d.e] 31 (0, 0))) b2 1 = some (int d.d) := by rw [rdc_sng]; rfl
 have cd2 : rdc (sng b2 (.cells #[int d.s, int d.d, int d.v, int d.r, int d.e] 31 (0, 0))) b2 2 = some (int d.v) := by rw [rdc_sng]; rfl
 have cd3 : rdc (sng b2 (.cells #[int d.s, int d.d, int d.v, int d.r, int d.e] 31 (0, 0))) b2 3 = some (int d.r) := by rw [rdc_sng]; rfl
 have cd4 : rdc (sng b2 (.cells #[int d.s, int d.d, int d.v, int d.r, int d.e] 31 (0, 0))) b2 4 = some (int d.e) := by rw [rdc_sng]; rfl
 refine AC ?_
 refine AC ?_
 refine AE ?_
 refine AD ?_
 refine AD ?_
 refine AA ?_
 refine AS ?_
 refine AS ?_
 refine A2 hval rfl rfl rdZ rfl rfl ?_
 rintro _ rfl
 cases hv : validT qs cs bs hs d with
 | false =>
  refine A6 ?_
  refine AE ?_
  refine AP rfl ?_
  refine AD ?_
  refine AA ?_
  refine AC ?_
  refine AC ?_
  refine AE ?_
  exact AI (res2 rfl rfl rfl) rsubZ selZ (.inl ⟨rfl, rfl, rfl⟩)
 | true =>
 have h := vok hv
 have hdm := h.dm
 unfold okDm at hdm
 have hnq := h.nq
 refine B9 ?_
 refine A6 ?_
 refine AE ?_
 refine AM rfl ?_
 refine AL ?_
 refine AD ?_
 refine AA ?_
 refine AS ?_
 refine AS ?_
 focus ((refine' BJ _ rfl rfl rfl _; rotate_left; (exact EZ); rintro _ _ ⟨b, rfl, rfl⟩))
 revert b; intro bm
 refine B8 (DF (out := [.slice pq qs.length kq, .slice pc cs.length kc, .slice pb bs.length kb, .slice ph hs.length kh, int d.s, int d.d, int d.v, int d.r, int d.e, .slice none 0 0, .map (some bm)]) rfl rfl rfl rfl rfl) rfl rfl rfl ?_
 refine BU ?_; rintro _ _ ⟨b, rfl, rfl⟩
 refine AC ?_
 refine AE ?_
 refine AD ?_
 refine AD ?_
 refine AA ?_
 refine AH ?_
 refine AH ?_
 refine AF ?_
 refine A0 ?_
 refine AB ?_
 refine AE ?_
 refine AQ ?_
 revert b; intro bw
 refine BG [2, 3, 6, 22] (X := Nat × Value × PH × List (List Int × Value)) (0, .slice none 0 0, emp, []) (fun x => x.1 ≤ qs.length ∧ OwnS 99 2 x.2.1 (placesA d x.1).length ((placesA d x.1).flatMap encS) x.2.2.1 ∧ NumAt d x.1 d.r x.2.2.2) (fun x => [(23, int x.1)]) (fun x => [sng bw (.cells #[.slice pq qs.length kq, .slice pc cs.length kc, .slice pb bs.length kb, .slice ph hs.length kh, int d.s, int d.d, int d.v, int d.r, int d.e, x.2.1, .map (some bm)] 97 (0, 0)), sng bm (mapS x.2.2.2), x.2.2.1]) (fun x => qs.length - x.1) pickZ ⟨by dsimp only; omega, OwnS.nil _ _, NumAt.nil d⟩ covZ selZ ?_
 rintro ⟨k, u, χ, M⟩ ⟨hk, hO, hM⟩
 dsimp only at hk hO hM ⊢
 by_cases hlt : k < qs.length
 rotate_left
 ·have hke : k = qs.length := by omega
  subst hke
  refine AD ?_
  refine AA ?_
  refine AW ?_
  refine AE ?_
  refine AD ?_
  refine AM rfl ?_
  refine A9 rfl ?_
  refine AD ?_
  refine AA ?_
  refine AB ?_
  refine AC ?_
  refine AC ?_
  refine AE ?_
  exact AI (res2 rfl rfl rfl) rsubZ selZ (.inr ⟨rfl, bw, bm, u, χ, M, rfl, rfl, hO, hM⟩)
 refine AD ?_
 refine AA ?_
 refine BD ?_
 refine AE ?_
 refine AD ?_
 refine AP rfl ?_
 refine AL ?_
 refine AD ?_
 refine AQ ?_
 refine AD ?_
 refine AA ?_
 refine AB ?_
 refine AC ?_
 refine AE ?_
 refine AD ?_
 refine AA ?_
 refine AH ?_
 refine AF ?_
 refine AC ?_
 refine AE ?_
 refine AQ ?_
 refine BG [2, 3, 6, 7, 22, 23] (X := Int × Value × PH × List (List Int × Value)) (d.r, u, χ, M) (fun x => d.r ≤ x.1 ∧ x.1 ≤ d.e + 1 ∧ OwnS 99 2 x.2.1 (placesA d k ++ placesN d k x.1).length ((placesA d k ++ placesN d k x.1).flatMap encS) x.2.2.1 ∧ NumAt d k x.1 x.2.2.2) (fun x => [(8, int x.1)]) (fun x => [sng bw (.cells #[.slice pq qs.length kq, .slice pc cs.length kc, .slice pb bs.length kb, .slice ph hs.length kh, int d.s, int d.d, int d.v, int d.r, int d.e, x.2.1, .map (some bm)] 97 (0, 0)), sng bm (mapS x.2.2.2), x.2.2.1]) (fun x => (d.e + 1 - x.1).toNat) pickZ ⟨by dsimp only; omega, by dsimp only; omega, by dsimp only; rw [placesN_nil, List.append_nil]; exact hO, hM⟩ covZ selZ ?_
 rintro ⟨t, u2, χ2, M2⟩ ⟨ht1, ht2, hO2, hM2⟩
 dsimp only at ht1 ht2 hO2 hM2 ⊢
 by_cases hte : t ≤ d.e
 rotate_left
 ·have hte2 : t = d.e + 1 := by omega
  subst hte2
  refine AD ?_
  refine AD ?_
  refine AA ?_
  refine AB ?_
  refine AH ?_
  refine AF ?_
  refine CQ ?_
  refine AE ?_
  refine AM rfl ?_
  refine A9 rfl ?_
  refine A3 ?_
  refine AA ?_
  refine BC ?_
  refine AB ?_
  refine AE ?_
  exact AX (k + 1, u2, χ2, M2) ⟨by dsimp only; omega, hO2, by dsimp only; exact hM2.row (by omega)⟩ (by dsimp only; omega) covZ selZ
 have hlen := places_at (d := d) (by omega) (k := k) ht1
 have hvt := vtx_lt (d := d) (n := k) (t := t) (N := 16) (by omega) (by omega) ht1 hte
 have hvb : vtx d k t < 1616 := by
  have hw := h.wd
  have := Int.mul_le_mul_of_nonneg_left hw.2 (show (0 : Int) ≤ ((16 : Nat) : Int) by omega)
  omega
 have hsn := placesN_snoc (k := k) ht1
 have hadd := hM2.add (by omega) ht1 hte
 have hMl := hM2.1
 obtain ⟨pu, ku, rfl⟩ := hO2.form
 have hflat : (placesA d k ++ placesN d k (t + 1)) = (placesA d k ++ placesN d k t) ++ [((k : Int), t)] := by rw [hsn, List.append_assoc]
 generalize placesA d k ++ placesN d k t = P at hlen hO2 hflat
 refine AD ?_
 refine AD ?_
 refine AA ?_
 refine AB ?_
 refine AH ?_
 refine AF ?_
 refine CL ?_
 refine AE ?_
 refine AP rfl ?_
 refine AL ?_
 refine AD ?_
 refine AQ ?_
 refine AD ?_
 refine AA ?_
 refine AB ?_
 refine AB ?_
 refine BS ?_
 refine AZ ?_; rintro _ _ ⟨b, rfl, rfl⟩
 refine AY ?_; rintro _ _ ⟨rfl, rfl⟩
 refine AE ?_
 refine AD ?_
 revert b; intro b9
 refine A5 (.q 0 (.q 1 (.q 2 (.q 3 (.q 4 (.q 5 (.q 6 (.q 7 (.q 8 (.q 9 (.l 10 .b .nil))))))))))) [] rfl (by kernel_rfl) Sel.nil ?_
 refine AT ?_
 refine AV ?_
 refine AU ?_
 refine AO ?_
 refine BW ?_
 refine AT ?_
 refine AV ?_
 refine AU ?_
 refine AO ?_
 refine DP ?_
 rw [hlen]
 refine CO ?_
 refine' FP rfl (ED 2 [(k : Int), t] (v := int (vtx d k t)) (l := M2) rfl rfl rfl rfl ⟨by kernel_rfl, by kernel_rfl⟩ rfl hMl takeZ) rfl rfl _ _
 ·rintro _ _ ⟨_, rfl⟩ w hw; exact hw.sel Sel.nil
 rintro _ _ ⟨rfl, rfl⟩
 refine A7 ?_
 skip
 refine A5 (.p 0 (.q 1 (.q 2 (.q 3 (.q 4 (.q 5 (.l 6 .e (.l 7 .b (.q 8 (.q 9 (.l 10 .b .nil))))))))))) [] rfl (by kernel_rfl) Sel.nil ?_
 refine FD ?_
 refine AT ?_
 refine AV ?_
 refine AU ?_
 refine AO ?_
 refine BW ?_
 refine BQ ?_; rintro _ _ ⟨b, rfl, rfl⟩
 refine CO (a_b rfl (CA (by_ := 16) (s := 2) (news := [int (k : Int), int t]) rfl rfl rfl rfl rfl rfl rfl hO2 takeZ (cells_own memZ) rfl (by (repeat (first | exact (fun v hv => absurd hv List.not_mem_nil) | (refine List.forall_mem_cons.2 ⟨?_, ?_⟩; (focus (first | exact rfl | assumption))))); first | done | fail) (by omega) (by simp only [maxLen]; omega) (by omega)) rfl rfl rfl (fun _ _ _ w hw => hw.sel Sel.nil) ?_)
 rintro u3 _ ⟨χ3, hO3, rfl⟩
 have hu3 := hone _ _ _ _ hO3
 refine AV ?_
 refine AU ?_
 refine C8 ?_; rintro _ _ ⟨rfl, rfl⟩
 refine A7 ?_
 refine A3 ?_
 refine AA ?_
 refine AB ?_
 refine CJ ?_
 refine AC ?_
 refine AE ?_
 refine AX (t + 1, u3, χ3, _) ⟨by dsimp only; omega, by dsimp only; omega, ?_, hadd⟩ (by dsimp only; omega) covZ selZ
 dsimp only
 rw [hflat, List.length_append, List.flatMap_append]
 exact hO3
end Go.Proofs.YthdoegkjifgegaaGreat
/- Inside a region that draws its order: the chunks in another order. No conditions. -/
namespace Go.Eng
variable {C : Cx} {D : List Deferred} {R H Hf : List PH} {L : Env} {K : List It} {ps ls : List Nat}
theorem Quiet.perm {H' : List PH} {o : Oper} {v : Value} (hp : H'.Perm H) (h : Quiet C R H L o v) : Quiet C R H' L o v := ⟨h.1, fun a w hx hs => h.2 a w hx (hs.perm hp)⟩
theorem D4 {H' : List PH} {all : Array Oper} {done : List Nat} {plan : Pl} (hp : H.Perm H') (h : DJ C D R Hf H' L all done ps ls plan K) : DJ C D R Hf H L all done ps ls plan K := by
  refine ⟨fun hpl fuel listed a w hinv => h.run hpl fuel listed a w ⟨hinv.size, hinv.dc, hinv.sub, hinv.fuel, hinv.tm, hinv.df, hinv.sat.perm hp, hinv.get, fun i hi hn => ?_, fun w hw => hinv.hf w (hw.perm hp.symm), hinv.lds, hinv.data, hinv.uniq, hinv.chron⟩⟩
  obtain ⟨o, d, v, h1, h2, h3, h4, h5⟩ := hinv.prom i hi hn
  refine ⟨o, d, v, h1, h2, h3, h4, ?_⟩
  rcases h5 with ⟨k1, k2⟩ | k
  · refine .inl ⟨k1, ?_⟩
    split at k2
    · rename_i c; rw [if_pos c]; exact k2
    · rename_i c; rw [if_neg c]; exact k2.perm hp.symm
  · exact .inr k
end Go.Eng
