/- The paths of a flow; greater capacities; arcs turned round. No program in sight. No conditions. -/
import Derived.Test.YtoccdekghjoldaaWMbCut
set_option linter.all false
namespace Go.Flow
/-- the links of the arcs, from the number i on -/
def plFrom : Nat → List Arc → List Lk
  | _, [] => []
  | i, a :: l => ⟨i, a.f.toNat, a.t.toNat⟩ :: plFrom (i + 1) l
def plinks (l : List Arc) : List Lk := plFrom 0 l
theorem plFrom_snoc (a : Arc) : ∀ (l : List Arc) (i : Nat), plFrom i (l ++ [a]) = plFrom i l ++ [(⟨i + l.length, a.f.toNat, a.t.toNat⟩ : Lk)]
  | [], i => by simp [plFrom]
  | b :: l, i => by
    simp only [List.cons_append, plFrom]
    rw [plFrom_snoc a l (i + 1)]
    simp only [List.length_cons]
    rw [show i + 1 + l.length = i + (l.length + 1) from by omega]
theorem plinks_snoc (l : List Arc) (a : Arc) : plinks (l ++ [a]) = plinks l ++ [(⟨l.length, a.f.toNat, a.t.toNat⟩ : Lk)] := by
  unfold plinks; rw [plFrom_snoc]; simp
theorem plFrom_len : ∀ (l : List Arc) (i : Nat), (plFrom i l).length = l.length
  | [], _ => rfl
  | a :: l, i => by simp [plFrom, plFrom_len l (i + 1)]
theorem plinks_len (l : List Arc) : (plinks l).length = l.length := plFrom_len l 0
theorem plFrom_get : ∀ (l : List Arc) (i j : Nat), (plFrom i l)[j]? = (l[j]?).map (fun a => (⟨i + j, a.f.toNat, a.t.toNat⟩ : Lk))
  | [], i, j => by simp [plFrom]
  | b :: l, i, j => by
    cases j with
    | zero => simp [plFrom]
    | succ j =>
      simp only [plFrom, List.getElem?_cons_succ]
      rw [plFrom_get l (i + 1) j, show i + 1 + j = i + (j + 1) from by omega]
theorem plinks_get (l : List Arc) (j : Nat) : (plinks l)[j]? = (l[j]?).map (fun a => (⟨j, a.f.toNat, a.t.toNat⟩ : Lk)) := by
  unfold plinks; rw [plFrom_get]; simp
theorem plinks_iff {l : List Arc} {x : Lk} : x ∈ plinks l ↔ ∃ j a, l[j]? = some a ∧ x = ⟨j, a.f.toNat, a.t.toNat⟩ := by
  rw [List.mem_iff_getElem?]
  constructor
  · rintro ⟨j, hj⟩
    rw [plinks_get, Option.map_eq_some_iff] at hj
    obtain ⟨a, ha, rfl⟩ := hj
    exact ⟨j, a, ha, rfl⟩
  · rintro ⟨j, a, ha, rfl⟩
    exact ⟨j, by rw [plinks_get, ha]; rfl⟩
theorem pl_lt {n : Nat} {l : List Arc} (hok : ∀ a ∈ l, okArc n a = true) : ∀ x ∈ plinks l, x.f < n ∧ x.t < n := fun x hx => by
  obtain ⟨j, a, ha, rfl⟩ := plinks_iff.1 hx
  have := okArc_iff.1 (hok a (List.mem_of_getElem? ha))
  dsimp only; omega
theorem pl_k {l : List Arc} {x : Lk} (hx : x ∈ plinks l) : x.k < l.length := by
  obtain ⟨j, a, ha, rfl⟩ := plinks_iff.1 hx
  exact (List.getElem?_eq_some_iff.1 ha).1
def rmP (rest : List Int) (k : Nat) : Int := rest.getD k 0
def subP (room : Int) (rest : List Int) (x : Lk) : List Int := rest.set x.k (rest.getD x.k 0 - room)
def subAll (room : Int) (rest : List Int) (p : List Lk) : List Int := p.foldl (subP room) rest
theorem subP_len (room : Int) (rest : List Int) (x : Lk) : (subP room rest x).length = rest.length := by simp [subP]
theorem subAll_len (room : Int) : ∀ (p : List Lk) (rest : List Int), (subAll room rest p).length = rest.length
  | [], rest => rfl
  | x :: p, rest => by
    have := subAll_len room p (subP room rest x)
    rw [subP_len] at this
    exact this
theorem subAll_snoc (room : Int) (fl : List Int) (p : List Lk) (x : Lk) : subAll room fl (p ++ [x]) = subP room (subAll room fl p) x := by simp [subAll]
theorem subP_ok {n : Nat} {l : List Arc} {fl : List Int} {x : Lk} {room : Int} (hok : ∀ a ∈ l, okArc n a = true) (hl : l.length = fl.length) (hc : inCap l fl = true) (hx : x ∈ plinks l) (h0 : 0 ≤ room) (hr : room ≤ rmP fl x.k) :
    inCap l (subP room fl x) = true ∧ (∀ v : Nat, fval v l (subP room fl x) = fval v l fl - ((if x.f = v then room else 0) - (if x.t = v then room else 0))) ∧ ∀ k, k ≠ x.k → rmP (subP room fl x) k = rmP fl k := by
  obtain ⟨j, a, ha, rfl⟩ := plinks_iff.1 hx
  have hjl : j < l.length := (List.getElem?_eq_some_iff.1 ha).1
  have hfj : fl[j]? = some (fl.getD j 0) := by simp [List.getD_eq_getElem?_getD, show j < fl.length by omega]
  have hin := inCap_get l fl hc j a _ ha hfj
  obtain ⟨g1, g2, g3, g4, g5, g6, g7⟩ := okArc_iff.1 (hok a (List.mem_of_getElem? ha))
  unfold rmP at hr
  dsimp only at hr
  refine ⟨?_, ?_, fun k hk => ?_⟩
  · unfold subP
    exact inCap_set l fl j a _ ha hc (by dsimp only; omega) (by dsimp only; omega)
  · intro v
    unfold subP
    dsimp only
    rw [fval_set v l fl j a _ ha hl]
    have e1 : (a.f = (v : Int)) ↔ (a.f.toNat = v) := by omega
    have e2 : (a.t = (v : Int)) ↔ (a.t.toNat = v) := by omega
    simp only [e1, e2]
    split <;> split <;> omega
  · unfold rmP subP
    exact getD_set' (Ne.symm hk)
theorem subAll_ok {n : Nat} {l : List Arc} {room : Int} (hok : ∀ a ∈ l, okArc n a = true) (h0 : 0 ≤ room) {E : Lk → Prop} (hE : ∀ x, E x → x ∈ plinks l) {u w : Nat} {p : List Lk} (hp : Chn E u p w) :
    ∀ (fl : List Int), l.length = fl.length → inCap l fl = true → p.Pairwise (fun x y => x.k ≠ y.k) → (∀ x ∈ p, room ≤ rmP fl x.k) →
    inCap l (subAll room fl p) = true ∧ ∀ v : Nat, fval v l (subAll room fl p) = fval v l fl - ((if u = v then room else 0) - (if w = v then room else 0)) := by
  induction hp with
  | nil => intro fl _ hc _ _; exact ⟨hc, fun v => by simp [subAll]⟩
  | @cons x u p w hf hx _ ih =>
    intro fl hl hc hpw hr
    rw [List.pairwise_cons] at hpw
    obtain ⟨s1, s2, s3⟩ := subP_ok hok hl hc (hE x hx) h0 (hr x (by simp))
    obtain ⟨r1, r2⟩ := ih (subP room fl x) (by rw [subP_len]; exact hl) s1 hpw.2 (fun y hy => by rw [s3 y.k (Ne.symm (hpw.1 y hy))]; exact hr y (by simp [hy]))
    refine ⟨r1, fun v => ?_⟩
    have := r2 v
    rw [s2 v] at this
    show fval v l (subAll room (subP room fl x) p) = _
    rw [this, hf]
    split <;> split <;> split <;> omega
abbrev pE (l : List Arc) (fl : List Int) : Lk → Prop := opn (plinks l) (rmP fl)
abbrev pP (l : List Arc) (fl : List Int) (D : List Int) (s : Nat) : List Lk := pathD (nxt (plinks l) (rmP fl) D) D s
abbrev pRoom (l : List Arc) (fl : List Int) (D : List Int) (s : Nat) : Int := leastR (rmP fl) (pP l fl D s)
abbrev pNext (l : List Arc) (fl : List Int) (D : List Int) (s : Nat) : List Int := subAll (pRoom l fl D s) fl (pP l fl D s)
section
variable {n s t : Nat} {l : List Arc}
theorem pP_arcs (hok : ∀ a ∈ l, okArc n a = true) (hs : s < n) {fl D : List Int} (hD : IsDist n t (pE l fl) D) (h0 : 0 ≤ D.getD s 0) : (pP l fl D s).Pairwise (fun x y => x.k ≠ y.k) := by
  obtain ⟨k, hk⟩ := Int.eq_ofNat_of_zero_le h0
  have hp := path_sorted (pl_lt hok) hD k s hs hk
  have hc := (path_chn (pl_lt hok) hD k s hs hk).all
  refine List.Pairwise.imp_of_mem (fun {x y} hx hy hxy e => ?_) hp
  obtain ⟨i, a, ha, rfl⟩ := plinks_iff.1 (hc x hx).1.1
  obtain ⟨j, b, hb, rfl⟩ := plinks_iff.1 (hc y hy).1.1
  dsimp only at e hxy
  subst e
  rw [ha] at hb
  obtain rfl := Option.some.inj hb
  omega
theorem pNext_ok (hok : ∀ a ∈ l, okArc n a = true) (hs : s < n) (hst : s ≠ t) {fl D : List Int} (hf : Flw n l s t fl) (hD : IsDist n t (pE l fl) D) (h0 : 0 ≤ D.getD s 0) :
    Flw n l s t (pNext l fl D s) ∧ 0 < pRoom l fl D s ∧ fval s l (pNext l fl D s) = fval s l fl - pRoom l fl D s := by
  obtain ⟨k, hk⟩ := Int.eq_ofNat_of_zero_le h0
  have hch := path_chn (pl_lt hok) hD k s hs hk
  have hpos : 0 < pRoom l fl D s := leastR_pos _ _ _ (by omega) (fun x hx => (hch.all x hx).1.2)
  obtain ⟨r1, r2⟩ := subAll_ok hok (Int.le_of_lt hpos) (E := fun x => pE l fl x ∧ D.getD x.t 0 = D.getD x.f 0 - 1 ∧ D.getD x.f 0 ≤ k) (fun x hx => hx.1.1) hch fl hf.len hf.cap (pP_arcs hok hs hD h0) (fun x hx => (leastR_le _ _ _).2 x hx)
  refine ⟨⟨by rw [subAll_len]; exact hf.len, r1, fun v hv h1 h2 => ?_⟩, hpos, ?_⟩
  · rw [r2 v, if_neg (Ne.symm h1), if_neg (Ne.symm h2), hf.bal v hv h1 h2]; rfl
  · rw [r2 s, if_pos rfl, if_neg (Ne.symm hst)]; omega
theorem pTake_cap (hok : ∀ a ∈ l, okArc n a = true) (hs : s < n) {fl D : List Int} (hf : Flw n l s t fl) (hD : IsDist n t (pE l fl) D) (h0 : 0 ≤ D.getD s 0) (i : Nat) :
    inCap l (subAll (pRoom l fl D s) fl ((pP l fl D s).take i)) = true := by
  obtain ⟨k, hk⟩ := Int.eq_ofNat_of_zero_le h0
  have hch := path_chn (pl_lt hok) hD k s hs hk
  have hpos : 0 < pRoom l fl D s := leastR_pos _ _ _ (by omega) (fun x hx => (hch.all x hx).1.2)
  obtain ⟨w, hw⟩ := hch.take i
  exact (subAll_ok hok (Int.le_of_lt hpos) (E := fun x => pE l fl x ∧ D.getD x.t 0 = D.getD x.f 0 - 1 ∧ D.getD x.f 0 ≤ k) (fun x hx => hx.1.1) hw fl hf.len hf.cap ((pP_arcs hok hs hD h0).sublist (List.take_sublist _ _)) (fun x hx => (leastR_le _ _ _).2 x (List.mem_of_mem_take hx))).1
end
/-- the run of the search for paths -/
inductive RunP (n : Nat) (l : List Arc) (s t : Nat) : List Int → List (List Lk × Int) → List Int → Prop
  | done {fl D : List Int} : IsDist n t (pE l fl) D → D.getD s 0 < 0 → RunP n l s t fl [] fl
  | step {fl D r : List Int} {ps : List (List Lk × Int)} : IsDist n t (pE l fl) D → 0 ≤ D.getD s 0 → RunP n l s t (pNext l fl D s) ps r → RunP n l s t fl ((pP l fl D s, pRoom l fl D s) :: ps) r
theorem RunP.uniq {n s t : Nat} {l : List Arc} (hok : ∀ a ∈ l, okArc n a = true) {fl F G : List Int} {ps qs : List (List Lk × Int)} (h1 : RunP n l s t fl ps F) (h2 : RunP n l s t fl qs G) : ps = qs ∧ F = G := by
  have hE : ∀ fl x, pE l fl x → x.f < n ∧ x.t < n := fun fl x hx => pl_lt hok x hx.1
  induction h1 generalizing G qs with
  | done hD hn =>
    cases h2 with
    | done => exact ⟨rfl, rfl⟩
    | step hD2 h0 _ => rw [hD.uniq (hE _) hD2] at hn; omega
  | step hD h0 _ ih =>
    cases h2 with
    | done hD2 hn => rw [hD.uniq (hE _) hD2] at h0; omega
    | step hD2 _ hr =>
      have e := hD.uniq (hE _) hD2
      subst e
      obtain ⟨e1, e2⟩ := ih hr
      exact ⟨by rw [e1], e2⟩
section
variable {n s t : Nat} {l : List Arc}
theorem net_le0 (B : Nat → Bool) : ∀ (l : List Arc) (fl : List Int), inCap l fl = true → (∀ (i : Nat) (a : Arc) (x : Int), l[i]? = some a → fl[i]? = some x → B a.f.toNat = true → B a.t.toNat = false → x = 0) → netB B l fl ≤ 0
  | [], _, _, _ => by simp [netB]
  | _ :: _, [], _, _ => by simp [netB]
  | a :: l, x :: fl, h, hz => by
    simp only [inCap, Bool.and_eq_true, decide_eq_true_eq] at h
    have ih := net_le0 B l fl h.2 (fun i b y hb hy => hz (i + 1) b y (by simpa using hb) (by simpa using hy))
    have h0 := hz 0 a x rfl rfl
    simp only [netB]
    cases hB1 : B a.f.toNat <;> cases hB2 : B a.t.toNat <;> simp <;> first | omega | (have := h0 hB1 hB2; omega)
/-- where no path is left, nothing leaves s -/
theorem rest_le0 (hok : ∀ a ∈ l, okArc n a = true) (hs : s < n) (ht : t < n) {fl D : List Int} (hf : Flw n l s t fl) (hD : IsDist n t (pE l fl) D) (hn : D.getD s 0 < 0) : fval s l fl ≤ 0 := by
  obtain ⟨B, hB⟩ := exists_reach n (pE l fl) s
  have hE : ∀ x, pE l fl x → x.f < n ∧ x.t < n := fun x hx => pl_lt hok x hx.1
  have b1 : B s = true := (hB s hs).2 .refl
  have b2 : B t = false := by
    cases hb : B t with
    | false => rfl
    | true =>
      have := ((hB t ht).1 hb).far hD hn
      rw [hD.at0] at this; omega
  rw [← hf.net hok hs b1 b2]
  refine net_le0 B l fl hf.cap (fun i a x ha hx h1 h2 => ?_)
  have hin := inCap_get l fl hf.cap i a x ha hx
  apply Classical.byContradiction
  intro hne
  have := hB.closed hE ⟨i, a.f.toNat, a.t.toNat⟩ ⟨plinks_iff.2 ⟨i, a, ha, rfl⟩, by unfold rmP; dsimp only; rw [List.getD_eq_getElem?_getD, hx]; simp only [Option.getD_some]; omega⟩ h1
  dsimp only at this
  rw [h2] at this; simp at this
/-- the flow of a run is greatest -/
theorem run_max (hok : ∀ a ∈ l, okArc n a = true) (hs : s < n) (ht : t < n) (hst : s ≠ t) {F G : List Int} (hr : RunR n l s t (List.replicate l.length 0) F) (hG : Flw n l s t G) : fval s l G ≤ fval s l F := by
  obtain ⟨B, hB⟩ := exists_reach n (rE l F) s
  obtain ⟨_, b1, b2, e⟩ := run_cut hok hs ht hst hr hB
  rw [e]
  exact hG.le_cap hok hs b1 b2
end
/-! ### a greater capacity -/
def raise (l : List Arc) (i : Nat) (by_ : Int) : List Arc := l.set i { l.getD i default with c := (l.getD i default).c + by_ }
theorem fval_arcs (v : Int) : ∀ (l l' : List Arc) (fl : List Int), l.map (fun a => (a.f, a.t)) = l'.map (fun a => (a.f, a.t)) → fval v l fl = fval v l' fl
  | [], [], _, _ => rfl
  | a :: l, a' :: l', [], _ => rfl
  | a :: l, a' :: l', x :: fl, h => by
    simp only [List.map_cons, List.cons.injEq, Prod.mk.injEq] at h
    simp only [fval]
    rw [h.1.1, h.1.2, fval_arcs v l l' fl h.2]
  | [], _ :: _, _, h => by simp at h
  | _ :: _, [], _, h => by simp at h
theorem raise_arcs (l : List Arc) (i : Nat) (b : Int) : l.map (fun a => (a.f, a.t)) = (raise l i b).map (fun a => (a.f, a.t)) := by
  apply List.ext_getElem
  · simp [raise]
  · intro j h1 h2
    simp only [raise, List.getElem_map, List.getElem_set]
    split
    · rename_i e; subst e
      simp at h1
      simp [List.getD_eq_getElem?_getD, h1]
    · rfl
theorem inCap_raise : ∀ (l : List Arc) (fl : List Int) (i : Nat) (b : Int), 0 ≤ b → inCap l fl = true → inCap (raise l i b) fl = true
  | [], _, _, _, _, _ => by simp [raise, inCap]
  | a :: l, [], i, b, _, _ => by cases i <;> simp [raise, inCap]
  | a :: l, x :: fl, i, b, hb, h => by
    simp only [inCap, Bool.and_eq_true, decide_eq_true_eq] at h
    cases i with
    | zero =>
      simp only [raise, List.set_cons_zero, List.getD_cons_zero, inCap, Bool.and_eq_true, decide_eq_true_eq]
      exact ⟨⟨h.1.1, by omega⟩, h.2⟩
    | succ i =>
      have := inCap_raise l fl i b hb h.2
      simp only [raise, List.set_cons_succ, List.getD_cons_succ, inCap, Bool.and_eq_true, decide_eq_true_eq]
      exact ⟨h.1, this⟩
theorem capOf_raise (B : Nat → Bool) : ∀ (l : List Arc) (i : Nat) (b : Int), 0 ≤ b → capOf B (raise l i b) ≤ capOf B l + b
  | [], _, _, h => by simpa [raise, capOf] using h
  | a :: l, i, b, hb => by
    cases i with
    | zero =>
      simp only [raise, List.set_cons_zero, List.getD_cons_zero, capOf]
      split <;> omega
    | succ i =>
      have := capOf_raise B l i b hb
      simp only [raise] at this
      simp only [raise, List.set_cons_succ, List.getD_cons_succ, capOf]
      omega
theorem max_raise {n s t i : Nat} {b : Int} {l : List Arc} {F G : List Int} (hok : ∀ a ∈ l, okArc n a = true) (hok2 : ∀ a ∈ raise l i b, okArc n a = true) (hs : s < n) (ht : t < n) (hst : s ≠ t) (hb : 0 ≤ b)
    (h1 : RunR n l s t (List.replicate l.length 0) F) (h2 : RunR n (raise l i b) s t (List.replicate (raise l i b).length 0) G) :
    fval s l F ≤ fval s (raise l i b) G ∧ fval s (raise l i b) G ≤ fval s l F + b := by
  obtain ⟨B, hB⟩ := exists_reach n (rE l F) s
  obtain ⟨hF, b1, b2, e⟩ := run_cut hok hs ht hst h1 hB
  have hG := (h2.flw hok2 hs hst (flw_zeros hok2)).1
  have hF2 : Flw n (raise l i b) s t F := ⟨by simp [raise, hF.len], inCap_raise l F i b hb hF.cap, fun v hv g1 g2 => by rw [← fval_arcs v l _ F (raise_arcs l i b)]; exact hF.bal v hv g1 g2⟩
  refine ⟨?_, ?_⟩
  · rw [fval_arcs s l _ F (raise_arcs l i b)]
    exact run_max hok2 hs ht hst h2 hF2
  · have := hG.le_cap hok2 hs b1 b2
    have := capOf_raise B l i b hb
    omega
/-! ### arcs turned round, arcs in the opposite order -/
def turnA (a : Arc) : Arc := ⟨a.t, a.f, a.c⟩
theorem okArc_turn (n : Int) (a : Arc) : okArc n (turnA a) = okArc n a := by
  unfold okArc turnA
  congr 1
  apply propext
  dsimp only
  constructor <;> (intro h; omega)
theorem fval_turn (v : Int) : ∀ (l : List Arc) (fl : List Int), fval v (l.map turnA) fl = - fval v l fl
  | [], _ => by simp [fval]
  | _ :: _, [] => by simp [fval]
  | a :: l, x :: fl => by
    simp only [List.map_cons, fval, fval_turn v l fl, turnA]
    split <;> split <;> omega
theorem inCap_turn : ∀ (l : List Arc) (fl : List Int), inCap (l.map turnA) fl = inCap l fl
  | [], _ => by simp [inCap]
  | _ :: _, [] => by simp [inCap]
  | a :: l, x :: fl => by simp only [List.map_cons, inCap, inCap_turn l fl, turnA]
theorem netB_all : ∀ (l : List Arc) (fl : List Int), netB (fun _ => true) l fl = 0
  | [], _ => by simp [netB]
  | _ :: _, [] => by simp [netB]
  | a :: l, x :: fl => by simp only [netB, if_true]; rw [netB_all l fl]; omega
theorem sumTo_two {g : Nat → Int} {j k : Nat} (hjk : j ≠ k) : ∀ n, j < n → k < n → (∀ v, v < n → v ≠ j → v ≠ k → g v = 0) → sumTo g n = g j + g k
  | 0, h, _, _ => by omega
  | n + 1, h, h2, e => by
    simp only [sumTo]
    by_cases e1 : k = n
    · rw [sumTo_one (k := j) n (by omega) (fun v hv hne => e v (by omega) hne (by omega)), e1]
    · by_cases e2 : j = n
      · rw [sumTo_one (k := k) n (by omega) (fun v hv hne => e v (by omega) (by omega) hne), e2]; omega
      · rw [sumTo_two hjk n (by omega) (by omega) (fun v hv g1 g2 => e v (by omega) g1 g2), e n (by omega) (by omega) (by omega)]; omega
theorem Flw.ends {n s t : Nat} {l : List Arc} {fl : List Int} (hok : ∀ a ∈ l, okArc n a = true) (hs : s < n) (ht : t < n) (hst : s ≠ t) (hf : Flw n l s t fl) : fval t l fl = - fval s l fl := by
  have h := netB_eq (n := n) (fun _ => true) l fl hok
  rw [netB_all] at h
  rw [sumTo_two hst n hs ht (fun v hv g1 g2 => by simp only [if_true]; exact hf.bal v hv g1 g2)] at h
  simp only [if_true] at h
  omega
theorem Flw.turn {n s t : Nat} {l : List Arc} {fl : List Int} (hf : Flw n l s t fl) : Flw n (l.map turnA) t s fl :=
  ⟨by simp [hf.len], by rw [inCap_turn]; exact hf.cap, fun v hv g1 g2 => by rw [fval_turn, hf.bal v hv g2 g1]; rfl⟩
theorem turn_turn (l : List Arc) : (l.map turnA).map turnA = l := by
  rw [List.map_map]
  conv => rhs; rw [← List.map_id l]
  rfl
theorem ok_turn {n : Nat} {l : List Arc} (hok : ∀ a ∈ l, okArc n a = true) : ∀ a ∈ l.map turnA, okArc n a = true := fun a ha => by
  obtain ⟨b, hb, rfl⟩ := List.mem_map.1 ha
  rw [okArc_turn]; exact hok b hb
theorem max_turn {n s t : Nat} {l : List Arc} {F G : List Int} (hok : ∀ a ∈ l, okArc n a = true) (hs : s < n) (ht : t < n) (hst : s ≠ t)
    (h1 : RunR n l s t (List.replicate l.length 0) F) (h2 : RunR n (l.map turnA) t s (List.replicate (l.map turnA).length 0) G) : fval s l F = fval t (l.map turnA) G := by
  have hF := (h1.flw hok hs hst (flw_zeros hok)).1
  have hG := (h2.flw (ok_turn hok) ht (Ne.symm hst) (flw_zeros (ok_turn hok))).1
  have a1 := run_max (ok_turn hok) ht hs (Ne.symm hst) h2 hF.turn
  have hG2 : Flw n l s t G := by have := hG.turn; rwa [turn_turn] at this
  have a2 := run_max hok hs ht hst h1 hG2
  have e0 := fval_turn t l G
  have e3 := fval_turn t l F
  have e1 := hF.ends hok hs ht hst
  have e2 := hG2.ends hok hs ht hst
  omega
theorem fval_append (v : Int) : ∀ (l1 l2 : List Arc) (f1 f2 : List Int), l1.length = f1.length → fval v (l1 ++ l2) (f1 ++ f2) = fval v l1 f1 + fval v l2 f2
  | [], l2, [], f2, _ => by simp [fval]
  | a :: l1, l2, x :: f1, f2, h => by
    simp only [List.cons_append, fval]
    rw [fval_append v l1 l2 f1 f2 (by simpa using h)]; omega
theorem fval_rev (v : Int) : ∀ (l : List Arc) (fl : List Int), l.length = fl.length → fval v l.reverse fl.reverse = fval v l fl
  | [], [], _ => rfl
  | a :: l, x :: fl, h => by
    have hl : l.length = fl.length := by simpa using h
    rw [List.reverse_cons, List.reverse_cons, fval_snoc v a x _ _ (by simpa using hl), fval_rev v l fl hl]
    simp only [fval]; omega
theorem inCap_rev : ∀ (l : List Arc) (fl : List Int), l.length = fl.length → inCap l.reverse fl.reverse = inCap l fl
  | [], [], _ => rfl
  | a :: l, x :: fl, h => by
    have hl : l.length = fl.length := by simpa using h
    rw [List.reverse_cons, List.reverse_cons, inCap_snoc a x _ _ (by simpa using hl), inCap_rev l fl hl]
    simp only [inCap]; rw [Bool.and_comm]
theorem Flw.rev {n s t : Nat} {l : List Arc} {fl : List Int} (hf : Flw n l s t fl) : Flw n l.reverse s t fl.reverse :=
  ⟨by simp [hf.len], by rw [inCap_rev l fl hf.len]; exact hf.cap, fun v hv g1 g2 => by rw [fval_rev v l fl hf.len]; exact hf.bal v hv g1 g2⟩
theorem max_rev {n s t : Nat} {l : List Arc} {F G : List Int} (hok : ∀ a ∈ l, okArc n a = true) (hs : s < n) (ht : t < n) (hst : s ≠ t)
    (h1 : RunR n l s t (List.replicate l.length 0) F) (h2 : RunR n l.reverse s t (List.replicate l.reverse.length 0) G) : fval s l F = fval s l.reverse G := by
  have hok2 : ∀ a ∈ l.reverse, okArc n a = true := fun a ha => hok a (by simpa using ha)
  have hF := (h1.flw hok hs hst (flw_zeros hok)).1
  have hG := (h2.flw hok2 hs hst (flw_zeros hok2)).1
  have a1 := run_max hok2 hs ht hst h2 hF.rev
  rw [fval_rev s l F hF.len] at a1
  have hG2 := hG.rev
  rw [List.reverse_reverse] at hG2
  have a2 := run_max hok hs ht hst h1 hG2
  have e : fval s l G.reverse = fval s l.reverse G := by
    have := fval_rev s l.reverse G hG.len
    rwa [List.reverse_reverse] at this
  omega
theorem all_turn (n : Int) (l : List Arc) : (l.map turnA).all (okArc n) = l.all (okArc n) := by
  rw [List.all_map]; congr 1; funext a; exact okArc_turn n a
theorem chk_turn (n : Int) (l : List Arc) : chk n (l.map turnA) = chk n l := by unfold chk; rw [all_turn, List.length_map]
theorem chk_rev (n : Int) (l : List Arc) : chk n l.reverse = chk n l := by unfold chk; rw [List.all_reverse, List.length_reverse]
theorem okEnds_turn (n s t : Int) : okEnds n t s = okEnds n s t := by
  unfold okEnds
  congr 1
  apply propext
  constructor <;> (intro h; omega)
/-! ### differences of flows -/
def diffL (a b : List Int) : List Int := List.zipWith (· - ·) a b
theorem diffL_len {a b : List Int} (h : a.length = b.length) : (diffL a b).length = a.length := by simp [diffL, h]
theorem fval_diff (v : Int) : ∀ (l : List Arc) (a b : List Int), a.length = b.length → fval v l (diffL a b) = fval v l a - fval v l b
  | [], [], [], _ => by simp [fval]
  | [], _ :: _, _ :: _, _ => by simp [fval]
  | _ :: _, [], [], _ => by simp [fval, diffL]
  | c :: l, x :: a, y :: b, h => by
    have := fval_diff v l a b (by simpa using h)
    simp only [diffL, List.zipWith_cons_cons, fval] at this ⊢
    rw [this]
    split <;> split <;> omega
theorem diffL_get {a b : List Int} {i : Nat} (h : i < a.length) (h2 : i < b.length) : (diffL a b).getD i 0 = a.getD i 0 - b.getD i 0 := by
  rw [List.getD_eq_getElem?_getD, List.getD_eq_getElem?_getD, List.getD_eq_getElem?_getD, diffL, List.getElem?_zipWith, List.getElem?_eq_getElem h, List.getElem?_eq_getElem h2]
  rfl
theorem diffL_set {a b : List Int} {i : Nat} (x : Int) (h : i < a.length) (h2 : i < b.length) : (diffL a b).set i ((diffL a b).getD i 0 + x) = diffL a (b.set i (b.getD i 0 - x)) := by
  rw [diffL_get h h2]
  apply List.ext_getElem
  · simp [diffL]
  · intro j h1 h3
    simp only [diffL, List.getElem_set, List.getElem_zipWith]
    split
    · rename_i e; subst e
      simp [List.getD_eq_getElem?_getD, h, h2]; omega
    · rfl
theorem diffL_self : ∀ (a : List Int), diffL a a = List.replicate a.length 0
  | [] => rfl
  | x :: a => by
    have := diffL_self a
    simp only [diffL] at this ⊢
    rw [List.zipWith_cons_cons, this, List.length_cons, List.replicate_succ, Int.sub_self]
end Go.Flow
