/- A region that draws its order: reads may come at any time, what acts comes in its place. No conditions. -/
import Derived.Test.YtnbihndlbopmeaaWMbMem
set_option linter.all false
namespace Go.Eng
variable {C : Cx} {D : List Deferred} {R H Hf : List PH} {L : Env} {K : List It} {ps ls : List Nat}

inductive Kd where
  | e | b
def predsOf (all : Array Oper) (i : Nat) : List Nat := match all[i]? with
  | some o => o.after.toList.filterMap (fun e => if Region.binds .any e then some e.on else none)
  | none => []
def dstOf (all : Array Oper) (i : Nat) : List Nat := match all[i]? with
  | some o => o.dst.toList
  | none => []
def rdsOf (all : Array Oper) (i : Nat) : List Nat := match all[i]? with
  | some o => readsOf all o
  | none => []
def readyL (all : Array Oper) (done : List Nat) : List Nat :=
  (List.range all.size).filter fun i => !done.contains i && (predsOf all i).all (done.contains ·)
def closeP (all : Array Oper) : Nat → List Nat → List Nat → List Nat
  | 0, _, acc => acc
  | _, [], acc => acc
  | f + 1, j :: todo, acc => if acc.contains j then closeP all f todo acc else closeP all f (predsOf all j ++ todo) (j :: acc)
def freshOK (all : Array Oper) (done : List Nat) (i : Nat) : Bool :=
  (dstOf all i).all fun d => !(rdsOf all i).contains d && done.all fun j => !(rdsOf all j).contains d && !(dstOf all j).contains d
def dataOK (all : Array Oper) (done : List Nat) (i : Nat) : Bool :=
  done.all fun j => (dstOf all j).all fun d => !(rdsOf all i).contains d || (predsOf all i).contains j
/-- the plan: q: a read; p: a read of what nothing here writes; l: the one act that is next; l2: two acts, either may come first -/
inductive Pl where
  | nil
  | q (i : Nat) (r : Pl)
  | p (i : Nat) (r : Pl)
  | l (i : Nat) (k : Kd) (r : Pl)
  | l2 (i : Nat) (k : Kd) (r : Pl) (j : Nat) (k' : Kd) (r' : Pl)
def readOK (all : Array Oper) (done : List Nat) (i : Nat) : Bool := (readyL all done).contains i && freshOK all done i && dataOK all done i
def loudOK (all : Array Oper) (done ps ls : List Nat) (i : Nat) : Kd → Bool
  | .e => freshOK all done i && dataOK all done i
  | .b => done.all fun j => ((closeP all (all.size * all.size) (predsOf all i) []).contains j || ls.contains j) || (ps.contains j && freshOK all [j] i && dataOK all [j] i)
def planOK (all : Array Oper) : List Nat → List Nat → List Nat → Pl → Bool
  | done, _, _, .nil => (readyL all done).isEmpty
  | done, ps, ls, .q i r => readOK all done i && planOK all (i :: done) ps ls r
  | done, ps, ls, .p i r => readOK all done i && planOK all (i :: done) (i :: ps) ls r
  | done, ps, ls, .l i k r => readyL all done == [i] && (loudOK all done ps ls i k && planOK all (i :: done) ps (i :: ls) r)
  | done, ps, ls, .l2 i k r j k' r' => readyL all done == [i, j] && ((loudOK all done ps ls i k && planOK all (i :: done) ps (i :: ls) r) && (loudOK all done ps ls j k' && planOK all (j :: done) ps (j :: ls) r'))

def isL (listed : Array Bool) (i : Nat) : Prop := listed.getD i true = true
theorem mem_ready {all : Array Oper} {listed : Array Bool} {i : Nat} : i ∈ Region.ready .any all listed ↔ i < all.size ∧ ¬ isL listed i ∧ ∀ j ∈ predsOf all i, listed.getD j false = true := by
  unfold Region.ready isL predsOf
  simp only [List.mem_filter, List.mem_range, Bool.and_eq_true, Bool.not_eq_true']
  constructor
  · rintro ⟨h1, h2, h3⟩
    refine ⟨h1, by simp [h2], ?_⟩
    rw [Array.getElem?_eq_getElem h1] at h3 ⊢
    simp only [Option.map_some, Option.getD_some, Array.all_eq_true', Bool.or_eq_true, Bool.not_eq_true'] at h3
    intro j hj
    simp only [List.mem_filterMap] at hj
    obtain ⟨e, he, hje⟩ := hj
    split at hje
    · rename_i hb
      simp at hje; subst hje
      rcases h3 e (by simpa using he) with h | h
      · rw [hb] at h; simp at h
      · exact h
    · simp at hje
  · rintro ⟨h1, h2, h3⟩
    refine ⟨h1, by simpa using h2, ?_⟩
    rw [Array.getElem?_eq_getElem h1] at h3 ⊢
    simp only [Option.map_some, Option.getD_some, Array.all_eq_true', Bool.or_eq_true, Bool.not_eq_true']
    intro e he
    cases hb : Region.binds .any e with
    | false => exact .inl rfl
    | true => exact .inr (h3 e.on (by simp only [List.mem_filterMap]; exact ⟨e, by simpa using he, by simp [hb]⟩))
theorem mem_readyL {all : Array Oper} {done : List Nat} {i : Nat} : i ∈ readyL all done ↔ i < all.size ∧ i ∉ done ∧ ∀ j ∈ predsOf all i, j ∈ done := by
  unfold readyL
  simp [List.mem_filter]

/-- promised, not carried out yet -/
def Prom (C : Cx) (R H : List PH) (L : Env) (all : Array Oper) (o : Oper) (v : Value) : Prop :=
  (wantE all L o = some true ∧ Quiet C R H L o v) ∨ (wantE all L o = some false ∧ v = undef)

def Chron (all : Array Oper) : List Nat → Prop
  | [] => True
  | i :: rest => i < all.size ∧ (∀ j ∈ predsOf all i, j ∈ rest) ∧ Chron all rest
structure DInv (C : Cx) (D : List Deferred) (R Hf H : List PH) (L : Env) (all : Array Oper) (done ps ls : List Nat) (listed : Array Bool) (fuel : Nat) (a : Act) (w : World) : Prop where
  size : listed.size = all.size
  dc : ∀ i, i < all.size → isL listed i → ∀ j ∈ predsOf all i, j < all.size ∧ isL listed j
  sub : ∀ i, i < all.size → isL listed i → i ∈ done
  fuel : ((List.range all.size).filter fun i => !listed.getD i true).length ≤ fuel
  tm : a.tmps.size = C.M
  df : a.defers = D
  sat : Sat C.N R H w
  get : ∀ t v, look L t = some v → a.tmps.getD t undef = v ∨ ∃ i ∈ done, ¬ isL listed i ∧ t ∈ dstOf all i
  prom : ∀ i ∈ done, ¬ isL listed i → ∃ o d v, all[i]? = some o ∧ o.dst = some d ∧ Nat.blt d C.M = true ∧ look L d = some v ∧ Prom C R (if ps.contains i then Hf else H) L all o v
  hf : ∀ w, Sat C.N R H w → Sat C.N R Hf w
  lds : ∀ i ∈ ls, isL listed i
  data : ∀ i ∈ done, ¬ isL listed i → ∀ j ∈ done, ∀ d ∈ dstOf all j, d ∈ rdsOf all i → j ∈ predsOf all i
  uniq : ∀ i ∈ done, ¬ isL listed i → ∀ j ∈ done, j ≠ i → ∀ d ∈ dstOf all i, d ∉ dstOf all j
  chron : Chron all done

theorem isL_set {listed : Array Bool} {i j : Nat} (hi : i < listed.size) : isL (listed.setIfInBounds i true) j ↔ j = i ∨ isL listed j := by
  unfold isL
  simp only [Array.getD_eq_getD_getElem?, Array.getElem?_setIfInBounds]
  by_cases e : i = j
  · subst e; simp [hi]
  · have : j ≠ i := fun h => e h.symm
    simp [e, this]
theorem getD_isL {listed : Array Bool} {i n : Nat} (hn : listed.size = n) (hi : i < n) : listed.getD i false = true ↔ isL listed i := by
  unfold isL
  subst hn
  simp [hi]
theorem filter_lt {l : List Nat} {p q : Nat → Bool} {i : Nat} (hi : i ∈ l) (hp : p i = true) (hq : q i = false) (hqp : ∀ j, q j = true → p j = true) : (l.filter q).length < (l.filter p).length := by
  induction l with
  | nil => simp at hi
  | cons x l ih =>
    have hle : (l.filter q).length ≤ (l.filter p).length := by
      clear ih hi
      induction l with
      | nil => simp
      | cons y l ih =>
        simp only [List.filter_cons]
        cases hqy : q y with
        | true => simp [hqp y hqy]; omega
        | false => cases p y <;> simp <;> omega
    simp only [List.filter_cons]
    by_cases e : x = i
    · subst e; simp [hp, hq]; omega
    · have hi' : i ∈ l := by simp at hi; exact hi.resolve_left (fun h => e h.symm)
      have := ih hi'
      cases hqy : q x with
      | true => simp [hqp x hqy]; omega
      | false => cases p x <;> simp <;> omega
theorem DInv.on {all : Array Oper} {done : List Nat} {listed : Array Bool} {fuel : Nat} {a : Act} {w : World} (h : DInv C D R Hf H L all done ps ls listed fuel a w) {m : Nat} {o : Oper} (ho : all[m]? = some o)
    (hd : ∀ j ∈ done, ∀ d ∈ dstOf all j, d ∈ rdsOf all m → j ∈ predsOf all m) (hr : m ∈ Region.ready .any all listed) :
    (∀ t ∈ readsOf all o, ∀ v, look L t = some v → a.tmps.getD t undef = v) := by
  intro t ht v hv
  rcases h.get t v hv with hg | ⟨i, hi, hni, hit⟩
  · exact hg
  · exfalso
    have hp := hd i hi t hit (by unfold rdsOf; rw [ho]; exact ht)
    have hl := (mem_ready.1 hr).2.2 i hp
    apply hni
    unfold isL
    cases hb : listed[i]? with
    | none => simp [Array.getD_eq_getD_getElem?, hb]
    | some b => simp [Array.getD_eq_getD_getElem?, hb] at hl ⊢; exact hl
theorem onE_of {all : Array Oper} {a : Act} {o : Oper} (h : ∀ t ∈ readsOf all o, ∀ v, look L t = some v → a.tmps.getD t undef = v) : ∀ x ∈ o.op.operands, OnE L a x := by
  intro x hx v hv
  cases x with
  | tmp t => exact h t (by unfold readsOf; simp only [List.mem_append, List.mem_filterMap]; exact .inl ⟨.tmp t, by simpa using hx, rfl⟩) v hv
  | const c => simp [evalE] at hv; simp [Act.eval, hv]
  | global g => simp [evalE] at hv; simp [Act.eval, hv]
  | func f => simp [evalE] at hv; simp [Act.eval, hv]
theorem DInv.listed {all : Array Oper} {done : List Nat} {listed : Array Bool} {fuel : Nat} {a : Act} {w : World} (h : DInv C D R Hf H L all done ps ls listed (fuel + 1) a w) {m : Nat} (hr : m ∈ Region.ready .any all listed) :
    (listed.setIfInBounds m true).size = all.size ∧ (∀ i, i < all.size → isL (listed.setIfInBounds m true) i → ∀ j ∈ predsOf all i, j < all.size ∧ isL (listed.setIfInBounds m true) j) ∧
    ((List.range all.size).filter fun i => !(listed.setIfInBounds m true).getD i true).length ≤ fuel := by
  obtain ⟨h1, h2, h3⟩ := mem_ready.1 hr
  have hms : m < listed.size := by rw [h.size]; exact h1
  refine ⟨by simp [h.size], fun i hi hl j hj => ?_, ?_⟩
  · rcases (isL_set hms).1 hl with rfl | hl
    · have h4 := h3 j hj
      have hj2 : j < all.size := by
        rw [← h.size]
        cases hb : listed[j]? with
        | none => simp [Array.getD_eq_getD_getElem?, hb] at h4
        | some b => exact (Array.getElem?_eq_some_iff.1 hb).1
      exact ⟨hj2, (isL_set hms).2 (.inr ((getD_isL h.size hj2).1 h4))⟩
    · have := h.dc i hi hl j hj
      exact ⟨this.1, (isL_set hms).2 (.inr this.2)⟩
  · have := filter_lt (l := List.range all.size) (p := fun i => !listed.getD i true) (q := fun i => !(listed.setIfInBounds m true).getD i true) (i := m) (by simpa using h1) (by unfold isL at h2; simpa using h2)
      (by
        have : isL (listed.setIfInBounds m true) m := (isL_set hms).2 (.inl rfl)
        unfold isL at this; simp only [this, Bool.not_true])
      (fun j hj => by
        simp only [Bool.not_eq_true'] at hj ⊢
        have h5 : ¬ isL (listed.setIfInBounds m true) j := by unfold isL; simp [hj]
        have h6 : ¬ isL listed j := fun h => h5 ((isL_set hms).2 (.inr h))
        unfold isL at h6; simpa using h6)
    have := h.fuel
    omega

theorem exists_ready {all : Array Oper} {listed : Array Bool} (hs : listed.size = all.size) : ∀ (done : List Nat), Chron all done → (∃ i ∈ done, ¬ isL listed i) → ∃ m, m ∈ Region.ready .any all listed := by
  intro done
  induction done with
  | nil => rintro _ ⟨i, hi, _⟩; simp at hi
  | cons k rest ih =>
    rintro ⟨hk, hp, hc⟩ ⟨i, hi, hni⟩
    by_cases hr : ∃ i ∈ rest, ¬ isL listed i
    · exact ih hc hr
    · have hall : ∀ j ∈ rest, isL listed j := fun j hj => by
        by_cases hl : isL listed j
        · exact hl
        · exact absurd ⟨j, hj, hl⟩ hr
      have hik : i = k := by
        simp at hi
        rcases hi with rfl | hi
        · rfl
        · exact absurd (hall i hi) hni
      subst hik
      refine ⟨i, mem_ready.2 ⟨hk, hni, fun j hj => ?_⟩⟩
      have hjr := hp j hj
      have hjs : j < all.size := by
        clear ih hall hr hi hni hp
        induction rest with
        | nil => simp at hjr
        | cons x xs ih =>
          simp at hjr
          rcases hjr with rfl | hjr
          · exact hc.1
          · exact ih hc.2.2 hjr
      exact (getD_isL hs hjs).2 (hall j hjr)

theorem drain {all : Array Oper} {done : List Nat}
    (hnew : ∀ fuel listed a w, DInv C D R Hf H L all done ps ls listed (fuel + 1) a w → ∀ m ∈ Region.ready .any all listed, m ∉ done → wpOpIn (wideR C.r) 0 C.P all (wpK C K) m (wpAnyIn (wideR C.r) 0 C.P .any all (wpK C K) fuel (listed.setIfInBounds m true)) a w)
    (hend : ∀ fuel listed a w, DInv C D R Hf H L all done ps ls listed fuel a w → Region.ready .any all listed = [] → wpK C K .normal a w) :
    ∀ fuel listed a w, DInv C D R Hf H L all done ps ls listed fuel a w → wpAnyIn (wideR C.r) 0 C.P .any all (wpK C K) fuel listed a w := by
  intro fuel
  induction fuel with
  | zero =>
    intro listed a w h
    have hr : Region.ready .any all listed = [] := by
      cases hr : Region.ready .any all listed with
      | nil => rfl
      | cons m rest =>
        exfalso
        have hm : m ∈ Region.ready .any all listed := by rw [hr]; simp
        obtain ⟨h1, h2, _⟩ := mem_ready.1 hm
        have := h.fuel
        have hmem : m ∈ (List.range all.size).filter fun i => !listed.getD i true := by
          simp only [List.mem_filter, List.mem_range]
          exact ⟨h1, by unfold isL at h2; simpa using h2⟩
        have hz : ((List.range all.size).filter fun i => !listed.getD i true) = [] := List.eq_nil_of_length_eq_zero (by omega)
        rw [hz] at hmem
        simp at hmem
    exact ⟨hr, hend 0 listed a w h hr⟩
  | succ fuel ih =>
    intro listed a w h
    refine ⟨fun hr => hend _ listed a w h hr, fun m hm => ?_⟩
    by_cases hmd : m ∈ done
    · obtain ⟨h1, h2, h3⟩ := mem_ready.1 hm
      obtain ⟨o, d, v, ho, hd, hM, hl, hp⟩ := h.prom m hmd h2
      have hon := h.on ho (h.data m hmd h2) hm
      have hms : m < listed.size := by rw [h.size]; exact h1
      obtain ⟨k1, k2, k3⟩ := h.listed hm
      have hdm : d ∈ dstOf all m := by unfold dstOf; rw [ho]; simp [hd]
      have hlt : d < C.M := Nat.le_of_ble_eq_true hM
      have hinv : DInv C D R Hf H L all done ps ls (listed.setIfInBounds m true) fuel (a.put o.dst v) w := by
        refine ⟨k1, k2, fun i hi hil => ?_, k3, by rw [hd]; simp [Act.put, h.tm], by rw [hd]; exact h.df, h.sat, fun t u hu => ?_, fun i hi hni => ?_, ?_, ?_, fun i hi hni => ?_, fun i hi hni => ?_, h.chron⟩
        · rcases (isL_set hms).1 hil with rfl | hil
          · exact hmd
          · exact h.sub i hi hil
        · rw [hd]
          by_cases e : d = t
          · subst e
            rw [hl] at hu; simp only [Option.some.injEq] at hu; subst hu
            left
            simp [Act.put, h.tm, hlt]
          · rcases h.get t u hu with hg | ⟨i, hi, hni, hit⟩
            · left
              simpa [Act.put, Array.getD_eq_getD_getElem?, e] using hg
            · right
              refine ⟨i, hi, fun hil => ?_, hit⟩
              rcases (isL_set hms).1 hil with rfl | hil
              · unfold dstOf at hit; rw [ho] at hit; simp [hd] at hit; exact e hit.symm
              · exact hni hil
        · exact h.prom i hi (fun hl => hni ((isL_set hms).2 (.inr hl)))
        · exact h.hf
        · exact fun i hi => (isL_set hms).2 (.inr (h.lds i hi))
        · exact h.data i hi (fun hl => hni ((isL_set hms).2 (.inr hl)))
        · exact h.uniq i hi (fun hl => hni ((isL_set hms).2 (.inr hl)))
      unfold wpOpIn
      rw [ho]
      simp only
      rcases hp with ⟨hw, hq⟩ | ⟨hw, rfl⟩
      · rw [if_pos (want_of hw hon)]
        have hsat : Sat C.N R (if ps.contains m then Hf else H) w := by
          split
          · exact h.hf w h.sat
          · exact h.sat
        exact wpIn_quiet hq (onE_of hon) hsat (ih _ _ _ hinv)
      · rw [if_neg (by rw [want_of hw hon]; simp)]
        exact ⟨fun _ _ => trivial, ih _ _ _ hinv⟩
    · exact hnew fuel listed a w h m hm hmd

/-- in a region that draws: 'done' is carried out or promised, the plan is to come; Hf: what nothing here writes -/
structure DJ (C : Cx) (D : List Deferred) (R Hf H : List PH) (L : Env) (all : Array Oper) (done ps ls : List Nat) (plan : Pl) (K : List It) : Prop where
  run : planOK all done ps ls plan = true → ∀ fuel listed a w, DInv C D R Hf H L all done ps ls listed fuel a w → wpAnyIn (wideR C.r) 0 C.P .any all (wpK C K) fuel listed a w

theorem jk_draw {id : Nat} {all : Array Oper} (plan : Pl) (Hf : List PH) (hm : C.P.follows .mixedOrders = true) (hp : planOK all [] [] [] plan = true) (hf : Sel H Hf) (h : DJ C D R Hf H L all [] [] [] plan K) : JK C D R H L (.code (.region id all true) :: K) := by
  refine ⟨fun a w hfr hd hs => wpIn_region_any hm (h.run hp _ _ _ _ ?_)⟩
  have hno : ∀ i, i < all.size → ¬ isL (Array.replicate all.size false) i := fun i hi => by
    unfold isL; simp [hi]
  refine ⟨by simp, fun i hi hl => absurd hl (hno i hi), fun i hi hl => absurd hl (hno i hi), ?_, hfr.size, hd, hs.heap rfl rfl rfl rfl, fun t v hv => .inl (hfr.get t v hv), by simp, fun w hw => hw.sel hf, by simp, by simp, by simp, trivial⟩
  have := List.length_filter_le (fun i => !(Array.replicate all.size false).getD i true) (List.range all.size)
  simpa using this

theorem Prom.cons {all : Array Oper} {o : Oper} {v u : Value} {d : Nat} (h : Prom C R H L all o v) (hd : d ∉ readsOf all o) : Prom C R H ((d, u) :: L) all o v := by
  have hw : wantE all ((d, u) :: L) o = wantE all L o := by
    unfold wantE
    cases hg : o.guard with
    | none => rfl
    | some jw =>
      obtain ⟨j, want⟩ := jw
      simp only
      cases hj : (all[j]?).bind (·.dst) with
      | none => rfl
      | some d' =>
        simp only
        have : d ≠ d' := fun e => by
          subst e
          apply hd
          unfold readsOf; rw [hg]; simp [hj]
        rw [look_cons, if_neg this]
  unfold Prom
  rw [hw]
  rcases h with ⟨h1, h2⟩ | h
  · refine .inl ⟨h1, h2.nd, fun a w hx hs => h2.run a w (fun x hxm v hv => hx x hxm v ?_) hs⟩
    cases x with
    | tmp t =>
      have : d ≠ t := fun e => by
        subst e
        apply hd
        unfold readsOf
        simp only [List.mem_append, List.mem_filterMap]
        exact .inl ⟨.tmp d, by simpa using hxm, rfl⟩
      simp only [evalE] at hv ⊢
      rw [look_cons, if_neg this]; exact hv
    | const c => exact hv
    | global g => exact hv
    | func f => exact hv
  · exact .inr h
theorem Prom.heap {all : Array Oper} {o : Oper} {v : Value} {H' : List PH} (h : Prom C R H L all o v) (hs : ∀ w, Sat C.N R H' w → Sat C.N R H w) : Prom C R H' L all o v := by
  rcases h with ⟨h1, h2⟩ | h
  · exact .inl ⟨h1, h2.nd, fun a w hx hsat => h2.run a w hx (hs w hsat)⟩
  · exact .inr h

theorem fresh_of {all : Array Oper} {done : List Nat} {i d : Nat} (h : freshOK all done i = true) (hd : d ∈ dstOf all i) : d ∉ rdsOf all i ∧ ∀ j ∈ done, d ∉ rdsOf all j ∧ d ∉ dstOf all j := by
  unfold freshOK at h
  rw [List.all_eq_true] at h
  have := h d hd
  simp only [Bool.and_eq_true, Bool.not_eq_true', List.all_eq_true] at this
  refine ⟨by simpa using this.1, fun j hj => ?_⟩
  have h2 := this.2 j hj
  exact ⟨by simpa using h2.1, by simpa using h2.2⟩
theorem data_of {all : Array Oper} {done : List Nat} {i : Nat} (h : dataOK all done i = true) : ∀ j ∈ done, ∀ d ∈ dstOf all j, d ∈ rdsOf all i → j ∈ predsOf all i := by
  unfold dataOK at h
  intro j hj d hd hr
  rw [List.all_eq_true] at h
  have h2 := h j hj
  rw [List.all_eq_true] at h2
  have h3 := h2 d hd
  simp only [Bool.or_eq_true, Bool.not_eq_true'] at h3
  rcases h3 with h3 | h3
  · simp at h3; exact absurd hr h3
  · simpa using h3

theorem dj_prom {all : Array Oper} {done : List Nat} {i d : Nat} {rest : Pl} {o : Oper} {v : Value} {p : Bool} (ho : all[i]? = some o) (hd : o.dst = some d) (hM : Nat.blt d C.M = true) (hp : Prom C R (if p then Hf else H) L all o v)
    (h : DJ C D R Hf H ((d, v) :: L) all (i :: done) (if p then i :: ps else ps) ls rest K) (hni' : i ∉ done → ∀ j ∈ ps, j ≠ i ∨ p = true) (hr : readOK all done i = true) (hpl : planOK all (i :: done) (if p then i :: ps else ps) ls rest = true) :
    ∀ fuel listed a w, DInv C D R Hf H L all done ps ls listed fuel a w → wpAnyIn (wideR C.r) 0 C.P .any all (wpK C K) fuel listed a w := by
  intro fuel listed a w hinv
  simp only [readOK, Bool.and_eq_true] at hr
  obtain ⟨⟨h1, h2⟩, h3⟩ := hr
  obtain ⟨k1, k2, k3⟩ := mem_readyL.1 (by simpa using h1)
  have hdi : d ∈ dstOf all i := by unfold dstOf; rw [ho]; simp [hd]
  obtain ⟨f1, f2⟩ := fresh_of h2 hdi
  have hri : rdsOf all i = readsOf all o := by unfold rdsOf; rw [ho]
  have hni : ¬ isL listed i := fun hl => k2 (hinv.sub i k1 hl)
  have hps : ∀ j, j ≠ i → (if p then i :: ps else ps).contains j = ps.contains j := fun j hj => by
    cases p
    · simp
    · simp [hj]
  refine h.run hpl fuel listed a w ⟨hinv.size, hinv.dc, fun j hj hl => by simp [hinv.sub j hj hl], hinv.fuel, hinv.tm, hinv.df, hinv.sat, fun t u hu => ?_, fun j hj hnl => ?_, hinv.hf, hinv.lds, fun j hj hnl k hk d' hd' hr => ?_, fun j hj hnl k hk hkj d' hd' => ?_, ⟨k1, k3, hinv.chron⟩⟩
  · rw [look_cons] at hu
    by_cases e : d = t
    · subst e; exact .inr ⟨i, by simp, hni, hdi⟩
    · rw [if_neg e] at hu
      rcases hinv.get t u hu with hg | ⟨j, hj, hnj, hjt⟩
      · exact .inl hg
      · exact .inr ⟨j, by simp [hj], hnj, hjt⟩
  · by_cases e : j = i
    · subst e
      refine ⟨o, d, v, ho, hd, hM, by rw [look_cons, if_pos rfl], ?_⟩
      have hpp := hp.cons (u := v) (by rw [← hri]; exact f1)
      cases p with
      | true => simpa using hpp
      | false =>
        have hnp : j ∉ ps := fun hm => by
          rcases hni' k2 j hm with h | h
          · exact h rfl
          · simp at h
        simpa [hnp] using hpp
    · have hj' : j ∈ done := by simp at hj; exact hj.resolve_left e
      obtain ⟨o', d', v', e1, e2, e3, e4, e5⟩ := hinv.prom j hj' hnl
      have hne : d ≠ d' := fun h => by
        subst h
        apply (f2 j hj').2
        unfold dstOf; rw [e1]; simp [e2]
      rw [hps j e]
      refine ⟨o', d', v', e1, e2, e3, by rw [look_cons, if_neg hne]; exact e4, e5.cons ?_⟩
      have := (f2 j hj').1
      unfold rdsOf at this; rw [e1] at this; exact this
  · by_cases ej : j = i
    · subst ej
      by_cases ek : k = j
      · subst ek
        have : d' = d := by unfold dstOf at hd'; rw [ho] at hd'; simpa [hd] using hd'
        subst this
        exact absurd hr f1
      · exact data_of h3 k (by simp at hk; exact hk.resolve_left ek) d' hd' hr
    · have hj' : j ∈ done := by simp at hj; exact hj.resolve_left ej
      by_cases ek : k = i
      · subst ek
        have : d' = d := by unfold dstOf at hd'; rw [ho] at hd'; simpa [hd] using hd'
        subst this
        exact absurd hr (f2 j hj').1
      · exact hinv.data j hj' hnl k (by simp at hk; exact hk.resolve_left ek) d' hd' hr
  · by_cases ej : j = i
    · subst ej
      have : d' = d := by unfold dstOf at hd'; rw [ho] at hd'; simpa [hd] using hd'
      subst this
      exact (f2 k (by simp at hk; exact hk.resolve_left hkj)).2
    · have hj' : j ∈ done := by simp at hj; exact hj.resolve_left ej
      by_cases ek : k = i
      · subst ek
        intro hdk
        have : d' = d := by unfold dstOf at hdk; rw [ho] at hdk; simpa [hd] using hdk
        subst this
        exact (f2 j hj').2 hd'
      · exact hinv.uniq j hj' hnl k (by simp at hk; exact hk.resolve_left ek) hkj d' hd'
theorem dj_q {all : Array Oper} {done : List Nat} {i d : Nat} {rest : Pl} {o : Oper} {v : Value} (ho : all[i]? = some o) (hq : Quiet C R H L o v) (hg : wantE all L o = some true) (hd : o.dst = some d) (hM : Nat.blt d C.M = true) (hin : (ps.all (done.contains ·)) = true)
    (h : DJ C D R Hf H ((d, v) :: L) all (i :: done) ps ls rest K) : DJ C D R Hf H L all done ps ls (.q i rest) K := by
  refine ⟨fun hpl => ?_⟩
  simp only [planOK, Bool.and_eq_true] at hpl
  refine dj_prom (p := false) ho hd hM (.inl ⟨hg, hq⟩) h (fun hni j hj => .inl (fun e => ?_)) hpl.1 hpl.2
  subst e
  rw [List.all_eq_true] at hin
  have := hin j hj
  simp at this
  exact hni this
theorem dj_pass {all : Array Oper} {done : List Nat} {i d : Nat} {rest : Pl} {o : Oper} (ho : all[i]? = some o) (hg : wantE all L o = some false) (hd : o.dst = some d) (hM : Nat.blt d C.M = true) (hin : (ps.all (done.contains ·)) = true)
    (h : DJ C D R Hf H ((d, undef) :: L) all (i :: done) ps ls rest K) : DJ C D R Hf H L all done ps ls (.q i rest) K := by
  refine ⟨fun hpl => ?_⟩
  simp only [planOK, Bool.and_eq_true] at hpl
  refine dj_prom (p := false) ho hd hM (.inr ⟨hg, rfl⟩) h (fun hni j hj => .inl (fun e => ?_)) hpl.1 hpl.2
  subst e
  rw [List.all_eq_true] at hin
  have := hin j hj
  simp at this
  exact hni this
theorem dj_p {all : Array Oper} {done : List Nat} {i d : Nat} {rest : Pl} {o : Oper} {v : Value} (ho : all[i]? = some o) (hq : Quiet C R Hf L o v) (hg : wantE all L o = some true) (hd : o.dst = some d) (hM : Nat.blt d C.M = true)
    (h : DJ C D R Hf H ((d, v) :: L) all (i :: done) (i :: ps) ls rest K) : DJ C D R Hf H L all done ps ls (.p i rest) K := by
  refine ⟨fun hpl => ?_⟩
  simp only [planOK, Bool.and_eq_true] at hpl
  exact dj_prom (p := true) ho hd hM (.inl ⟨hg, hq⟩) h (fun _ _ _ => .inr rfl) hpl.1 hpl.2
theorem dj_passp {all : Array Oper} {done : List Nat} {i d : Nat} {rest : Pl} {o : Oper} (ho : all[i]? = some o) (hg : wantE all L o = some false) (hd : o.dst = some d) (hM : Nat.blt d C.M = true)
    (h : DJ C D R Hf H ((d, undef) :: L) all (i :: done) (i :: ps) ls rest K) : DJ C D R Hf H L all done ps ls (.p i rest) K := by
  refine ⟨fun hpl => ?_⟩
  simp only [planOK, Bool.and_eq_true] at hpl
  exact dj_prom (p := true) ho hd hM (.inr ⟨hg, rfl⟩) h (fun _ _ _ => .inr rfl) hpl.1 hpl.2

theorem DInv.full {all : Array Oper} {done : List Nat} {listed : Array Bool} {fuel : Nat} {a : Act} {w : World} (h : DInv C D R Hf H L all done ps ls listed fuel a w) (hall : ∀ i ∈ done, isL listed i) : Frm C.M L a :=
  ⟨h.tm, fun t v hv => (h.get t v hv).resolve_right (fun ⟨i, hi, hni, _⟩ => hni (hall i hi))⟩
theorem dj_end {all : Array Oper} {done : List Nat} (h : JK C D R H L K) : DJ C D R Hf H L all done ps ls .nil K := by
  refine ⟨fun hpl => drain (fun fuel listed a w hinv m hm hmd => ?_) (fun fuel listed a w hinv hr => ?_)⟩
  · exfalso
    simp only [planOK, List.isEmpty_iff] at hpl
    obtain ⟨h1, h2, h3⟩ := mem_ready.1 hm
    have : m ∈ readyL all done := mem_readyL.2 ⟨h1, hmd, fun j hj => by
      have hlj := h3 j hj
      have hjs : j < all.size := by
        rw [← hinv.size]
        cases hb : listed[j]? with
        | none => simp [Array.getD_eq_getD_getElem?, hb] at hlj
        | some b => exact (Array.getElem?_eq_some_iff.1 hb).1
      exact hinv.sub j hjs ((getD_isL hinv.size hjs).1 hlj)⟩
    rw [hpl] at this
    simp at this
  · refine h.run a w (hinv.full fun i hi => ?_) hinv.df hinv.sat
    by_cases hl : isL listed i
    · exact hl
    · obtain ⟨m, hm⟩ := exists_ready hinv.size done hinv.chron ⟨i, hi, hl⟩
      rw [hr] at hm; simp at hm
/-- what comes up is promised, or among those that are next -/
theorem ready_cases {all : Array Oper} {done : List Nat} {listed : Array Bool} {fuel : Nat} {a : Act} {w : World} (hinv : DInv C D R Hf H L all done ps ls listed fuel a w) {m : Nat} (hm : m ∈ Region.ready .any all listed) (hmd : m ∉ done) : m ∈ readyL all done := by
  obtain ⟨h1, h2, h3⟩ := mem_ready.1 hm
  exact mem_readyL.2 ⟨h1, hmd, fun j hj => by
    have hlj := h3 j hj
    have hjs : j < all.size := by
      rw [← hinv.size]
      cases hb : listed[j]? with
      | none => simp [Array.getD_eq_getD_getElem?, hb] at hlj
      | some b => exact (Array.getElem?_eq_some_iff.1 hb).1
    exact hinv.sub j hjs ((getD_isL hinv.size hjs).1 hlj)⟩
theorem not_stuck {all : Array Oper} {done : List Nat} {listed : Array Bool} {fuel : Nat} {a : Act} {w : World} (hinv : DInv C D R Hf H L all done ps ls listed fuel a w) {i : Nat} (hi : i ∈ readyL all done) (he : Region.ready .any all listed = []) : False := by
  obtain ⟨k1, k2, k3⟩ := mem_readyL.1 hi
  by_cases hp : ∃ j ∈ done, ¬ isL listed j
  · obtain ⟨m, hm⟩ := exists_ready hinv.size done hinv.chron hp
    rw [he] at hm; simp at hm
  · have hall : ∀ j ∈ done, isL listed j := fun j hj => by
      by_cases hl : isL listed j
      · exact hl
      · exact absurd ⟨j, hj, hl⟩ hp
    have hjs : ∀ j ∈ done, j < all.size := by
      have hc := hinv.chron
      clear hall hp k3 k2 k1 hi he hinv
      induction done with
      | nil => intro j hj; simp at hj
      | cons x xs ih =>
        intro j hj
        simp at hj
        rcases hj with rfl | hj
        · exact hc.1
        · exact ih hc.2.2 j hj
    have : i ∈ Region.ready .any all listed := mem_ready.2 ⟨k1, fun hl => k2 (hinv.sub i k1 hl), fun j hj => (getD_isL hinv.size (hjs j (k3 j hj))).2 (hall j (k3 j hj))⟩
    rw [he] at this; simp at this

/-- one act: what is asked of it and of what follows -/
def ActOK (C : Cx) (D : List Deferred) (R Hf H : List PH) (L : Env) (all : Array Oper) (done ps ls : List Nat) (i : Nat) (k : Kd) (rest : Pl) (K : List It) : Prop :=
  loudOK all done ps ls i k = true → planOK all (i :: done) ps (i :: ls) rest = true → i ∈ readyL all done →
    ∀ fuel listed a w, DInv C D R Hf H L all done ps ls listed (fuel + 1) a w → i ∈ Region.ready .any all listed →
      wpOpIn (wideR C.r) 0 C.P all (wpK C K) i (wpAnyIn (wideR C.r) 0 C.P .any all (wpK C K) fuel (listed.setIfInBounds i true)) a w
theorem dj_l {all : Array Oper} {done : List Nat} {i : Nat} {k : Kd} {rest : Pl} (h : ActOK C D R Hf H L all done ps ls i k rest K) : DJ C D R Hf H L all done ps ls (.l i k rest) K := by
  refine ⟨fun hpl => ?_⟩
  simp only [planOK, Bool.and_eq_true, beq_iff_eq] at hpl
  obtain ⟨h1, h2, h3⟩ := hpl
  have hi : i ∈ readyL all done := by rw [h1]; simp
  refine drain (fun fuel listed a w hinv m hm hmd => ?_) (fun fuel listed a w hinv hr => (not_stuck hinv hi hr).elim)
  have := ready_cases hinv hm hmd
  rw [h1] at this
  simp at this
  subst this
  exact h h2 h3 hi fuel listed a w hinv hm
theorem dj_l2 {all : Array Oper} {done : List Nat} {i j : Nat} {k k' : Kd} {rest rest' : Pl} (h : ActOK C D R Hf H L all done ps ls i k rest K) (h' : ActOK C D R Hf H L all done ps ls j k' rest' K) : DJ C D R Hf H L all done ps ls (.l2 i k rest j k' rest') K := by
  refine ⟨fun hpl => ?_⟩
  simp only [planOK, Bool.and_eq_true, beq_iff_eq] at hpl
  obtain ⟨h1, ⟨h2, h3⟩, h4, h5⟩ := hpl
  have hi : i ∈ readyL all done := by rw [h1]; simp
  have hj : j ∈ readyL all done := by rw [h1]; simp
  refine drain (fun fuel listed a w hinv m hm hmd => ?_) (fun fuel listed a w hinv hr => (not_stuck hinv hi hr).elim)
  have := ready_cases hinv hm hmd
  rw [h1] at this
  simp at this
  rcases this with rfl | rfl
  · exact h h2 h3 hi fuel listed a w hinv hm
  · exact h' h4 h5 hj fuel listed a w hinv hm

theorem a_e {all : Array Oper} {done : List Nat} {i d : Nat} {rest : Pl} {o : Oper} {post : Value → List PH → Prop} (ho : all[i]? = some o) (hl : Loud C R H L o post) (hg : wantE all L o = some true) (hd : o.dst = some d) (hM : Nat.blt d C.M = true)
    (hsub : ∀ v H', post v H' → ∀ w, Sat C.N R H' w → Sat C.N R H w)
    (h : ∀ v H', post v H' → DJ C D R Hf H' ((d, v) :: L) all (i :: done) ps (i :: ls) rest K) : ActOK C D R Hf H L all done ps ls i .e rest K := by
  intro hlo hpl hrd fuel listed a w hinv hm
  simp only [loudOK, Bool.and_eq_true] at hlo
  obtain ⟨h2, h3⟩ := hlo
  obtain ⟨k1, k2, k3⟩ := mem_readyL.1 hrd
  have hon := hinv.on ho (data_of h3) hm
  have hdi : d ∈ dstOf all i := by unfold dstOf; rw [ho]; simp [hd]
  obtain ⟨f1, f2⟩ := fresh_of h2 hdi
  have hms : i < listed.size := by rw [hinv.size]; exact k1
  obtain ⟨l1, l2, l3⟩ := hinv.listed hm
  have hlt : d < C.M := Nat.le_of_ble_eq_true hM
  unfold wpOpIn
  rw [ho]
  simp only
  rw [if_pos (want_of hg hon)]
  refine hl.run a w (onE_of hon) hinv.sat _ _ (fun v H' w' hp hs' => (h v H' hp).run hpl _ _ _ _ ?_)
  have back : ∀ j ∈ done, ¬ isL (listed.setIfInBounds i true) j → ¬ isL listed j := fun j _ hn hl => hn ((isL_set hms).2 (.inr hl))
  have cs : ∀ j, j ∈ i :: done → ¬ isL (listed.setIfInBounds i true) j → j ∈ done := fun j hj hn => by
    simp at hj
    rcases hj with rfl | hj
    · exact absurd ((isL_set hms).2 (.inl rfl)) hn
    · exact hj
  have hlds : ∀ j ∈ i :: ls, isL (listed.setIfInBounds i true) j := fun j hj => by
    simp at hj
    rcases hj with rfl | hj
    · exact (isL_set hms).2 (.inl rfl)
    · exact (isL_set hms).2 (.inr (hinv.lds j hj))
  refine ⟨l1, l2, fun j hj hlj => ?_, l3, by rw [hd]; simp [Act.put, hinv.tm], by rw [hd]; exact hinv.df, hs', fun t u hu => ?_, fun j hj hnl => ?_, fun w hw => hinv.hf w (hsub v H' hp w hw), hlds, fun j hj hnl k hk d' hd' hr => ?_, fun j hj hnl k hk hkj d' hd' => ?_, ⟨k1, k3, hinv.chron⟩⟩
  · rcases (isL_set hms).1 hlj with rfl | hlj
    · simp
    · simp [hinv.sub j hj hlj]
  · rw [hd]
    rw [look_cons] at hu
    by_cases e : d = t
    · subst e
      simp only [if_true, Option.some.injEq] at hu; subst hu
      left
      simp [Act.put, hinv.tm, hlt]
    · rw [if_neg e] at hu
      rcases hinv.get t u hu with hg' | ⟨j, hj, hnj, hjt⟩
      · left; simpa [Act.put, Array.getD_eq_getD_getElem?, e] using hg'
      · right
        refine ⟨j, by simp [hj], fun hlj => ?_, hjt⟩
        rcases (isL_set hms).1 hlj with rfl | hlj
        · exact k2 hj
        · exact hnj hlj
  · have hj' := cs j hj hnl
    obtain ⟨o', d', v', e1, e2, e3, e4, e5⟩ := hinv.prom j hj' (back j hj' hnl)
    have hne : d ≠ d' := fun h => by
      subst h
      apply (f2 j hj').2
      unfold dstOf; rw [e1]; simp [e2]
    refine ⟨o', d', v', e1, e2, e3, by rw [look_cons, if_neg hne]; exact e4, (e5.cons ?_).heap (fun w hw => ?_)⟩
    · have := (f2 j hj').1
      unfold rdsOf at this; rw [e1] at this; exact this
    · split
      · rename_i hc; rw [if_pos hc] at hw; exact hw
      · rename_i hc; rw [if_neg hc] at hw; exact hsub v H' hp w hw
  · have hj' := cs j hj hnl
    by_cases ek : k = i
    · subst ek
      have : d' = d := by unfold dstOf at hd'; rw [ho] at hd'; simpa [hd] using hd'
      subst this
      exact absurd hr (f2 j hj').1
    · exact hinv.data j hj' (back j hj' hnl) k (by simp at hk; exact hk.resolve_left ek) d' hd' hr
  · have hj' := cs j hj hnl
    by_cases ek : k = i
    · subst ek
      intro hdk
      have : d' = d := by unfold dstOf at hdk; rw [ho] at hdk; simpa [hd] using hdk
      subst this
      exact (f2 j hj').2 hd'
    · exact hinv.uniq j hj' (back j hj' hnl) k (by simp at hk; exact hk.resolve_left ek) hkj d' hd'

theorem close_sub {all : Array Oper} {E : Nat → Prop} (hdc : ∀ i, E i → ∀ j ∈ predsOf all i, E j) : ∀ (f : Nat) (todo acc : List Nat), (∀ j ∈ todo, E j) → (∀ j ∈ acc, E j) → ∀ j ∈ closeP all f todo acc, E j := by
  intro f
  induction f with
  | zero => intro todo acc _ ha j hj; cases todo <;> simp only [closeP] at hj <;> exact ha j hj
  | succ f ih =>
    intro todo acc ht ha
    cases todo with
    | nil => intro j hj; simp only [closeP] at hj; exact ha j hj
    | cons x todo =>
      simp only [closeP]
      split
      · exact ih todo acc (fun j hj => ht j (by simp [hj])) ha
      · refine ih _ _ (fun j hj => ?_) (fun j hj => ?_)
        · simp at hj
          rcases hj with hj | hj
          · exact hdc x (ht x (by simp)) j hj
          · exact ht j (by simp [hj])
        · simp at hj
          rcases hj with rfl | hj
          · exact ht j (by simp)
          · exact ha j hj
theorem a_bar {all : Array Oper} {done : List Nat} {i : Nat} {rest : Pl} {o : Oper} {post : Value → List PH → Prop} {L' : Value → Env} (ho : all[i]? = some o) (hl : Loud C R H L o post) (hg : wantE all L o = some true)
    (hL : (∃ d, o.dst = some d ∧ Nat.blt d C.M = true ∧ L' = fun v => (d, v) :: L) ∨ (o.dst = none ∧ L' = fun _ => L))
    (hsub : ∀ v H', post v H' → ∀ w, Sat C.N R H' w → Sat C.N R Hf w)
    (h : ∀ v H', post v H' → DJ C D R Hf H' (L' v) all (i :: done) ps (i :: ls) rest K) : ActOK C D R Hf H L all done ps ls i .b rest K := by
  intro hlo hpl hrd fuel listed a w hinv hm
  simp only [loudOK] at hlo
  obtain ⟨k1, k2, k3⟩ := mem_readyL.1 hrd
  have hms : i < listed.size := by rw [hinv.size]; exact k1
  have hrdy := (mem_ready.1 hm).2.2
  have bnd : ∀ j, listed.getD j false = true → j < all.size ∧ isL listed j := fun j hlj => by
    have hjs : j < all.size := by
      rw [← hinv.size]
      cases hb : listed[j]? with
      | none => simp [Array.getD_eq_getD_getElem?, hb] at hlj
      | some b => exact (Array.getElem?_eq_some_iff.1 hb).1
    exact ⟨hjs, (getD_isL hinv.size hjs).1 hlj⟩
  have hpend : ∀ j ∈ done, ¬ isL listed j → ps.contains j = true ∧ freshOK all [j] i = true ∧ dataOK all [j] i = true := fun j hj hnj => by
    rw [List.all_eq_true] at hlo
    have h3 := hlo j hj
    simp only [Bool.or_eq_true, Bool.and_eq_true] at h3
    rcases h3 with (h3 | h3) | ⟨⟨h3, h4⟩, h5⟩
    rotate_left
    · exact absurd (hinv.lds j (by simpa using h3)) hnj
    rotate_left
    · exact absurd (close_sub (all := all) (E := fun j => j < all.size ∧ isL listed j) (fun i hi => hinv.dc i hi.1 hi.2) _ (predsOf all i) [] (fun j hj => bnd j (hrdy j hj)) (by simp) j (by simpa using h3)).2 hnj
    · exact ⟨h3, h4, h5⟩
  have hdata : ∀ j ∈ done, ¬ isL listed j → ∀ d ∈ dstOf all j, d ∉ rdsOf all i := fun j hj hnj d hd hr => by
    have := data_of (hpend j hj hnj).2.2 j (by simp) d hd hr
    exact hnj (bnd j (hrdy j this)).2
  have hon : ∀ t ∈ readsOf all o, ∀ v, look L t = some v → a.tmps.getD t undef = v := fun t ht v hv => by
    rcases hinv.get t v hv with hg' | ⟨j, hj, hnj, hjt⟩
    · exact hg'
    · exact absurd (by unfold rdsOf; rw [ho]; exact ht) (hdata j hj hnj t hjt)
  obtain ⟨l1, l2, l3⟩ := hinv.listed hm
  unfold wpOpIn
  rw [ho]
  simp only
  rw [if_pos (want_of hg hon)]
  refine hl.run a w (onE_of hon) hinv.sat _ _ (fun v H' w' hp hs' => (h v H' hp).run hpl _ _ _ _ ?_)
  have back : ∀ j ∈ done, ¬ isL (listed.setIfInBounds i true) j → ¬ isL listed j := fun j _ hn hl => hn ((isL_set hms).2 (.inr hl))
  have cs : ∀ j, j ∈ i :: done → ¬ isL (listed.setIfInBounds i true) j → j ∈ done := fun j hj hn => by
    simp at hj
    rcases hj with rfl | hj
    · exact absurd ((isL_set hms).2 (.inl rfl)) hn
    · exact hj
  have hlds : ∀ j ∈ i :: ls, isL (listed.setIfInBounds i true) j := fun j hj => by
    simp at hj
    rcases hj with rfl | hj
    · exact (isL_set hms).2 (.inl rfl)
    · exact (isL_set hms).2 (.inr (hinv.lds j hj))
  have hfr : ∀ j ∈ done, ¬ isL listed j → ∀ d ∈ dstOf all i, d ∉ rdsOf all j ∧ d ∉ dstOf all j := fun j hj hnj d hd => (fresh_of (hpend j hj hnj).2.1 hd).2 j (by simp)
  refine ⟨l1, l2, fun j hj hlj => ?_, l3, ?_, ?_, hs', fun t u hu => ?_, fun j hj hnl => ?_, fun w hw => hsub v H' hp w hw, hlds, fun j hj hnl k hk d' hd' hr => ?_, fun j hj hnl k hk hkj d' hd' => ?_, ⟨k1, k3, hinv.chron⟩⟩
  · rcases (isL_set hms).1 hlj with rfl | hlj
    · simp
    · simp [hinv.sub j hj hlj]
  · have := hinv.tm
    cases hd : o.dst <;> simpa [Act.put] using this
  · have := hinv.df
    cases hd : o.dst <;> simpa [Act.put] using this
  · rcases hL with ⟨d, hd, hM, rfl⟩ | ⟨hd, rfl⟩
    · rw [hd]
      simp only at hu
      rw [look_cons] at hu
      by_cases e : d = t
      · subst e
        simp only [if_true, Option.some.injEq] at hu; subst hu
        left
        simp [Act.put, hinv.tm, show d < C.M from Nat.le_of_ble_eq_true hM]
      · rw [if_neg e] at hu
        rcases hinv.get t u hu with hg' | ⟨j, hj, hnj, hjt⟩
        · left; simpa [Act.put, Array.getD_eq_getD_getElem?, e] using hg'
        · right
          refine ⟨j, by simp [hj], fun hlj => ?_, hjt⟩
          rcases (isL_set hms).1 hlj with rfl | hlj
          · exact k2 hj
          · exact hnj hlj
    · rw [hd]
      simp only [Act.put] at hu ⊢
      rcases hinv.get t u hu with hg' | ⟨j, hj, hnj, hjt⟩
      · exact .inl hg'
      · right
        refine ⟨j, by simp [hj], fun hlj => ?_, hjt⟩
        rcases (isL_set hms).1 hlj with rfl | hlj
        · exact k2 hj
        · exact hnj hlj
  · have hj' := cs j hj hnl
    have hnj := back j hj' hnl
    obtain ⟨o', d', v', e1, e2, e3, e4, e5⟩ := hinv.prom j hj' hnj
    have hc := (hpend j hj' hnj).1
    rw [if_pos hc] at e5 ⊢
    rcases hL with ⟨d, hd, hM, rfl⟩ | ⟨hd, rfl⟩
    · have hdi : d ∈ dstOf all i := by unfold dstOf; rw [ho]; simp [hd]
      have hf2 := hfr j hj' hnj d hdi
      have hne : d ≠ d' := fun h => by
        subst h
        apply hf2.2
        unfold dstOf; rw [e1]; simp [e2]
      refine ⟨o', d', v', e1, e2, e3, by simp only; rw [look_cons, if_neg hne]; exact e4, e5.cons ?_⟩
      have := hf2.1
      unfold rdsOf at this; rw [e1] at this; exact this
    · exact ⟨o', d', v', e1, e2, e3, e4, e5⟩
  · have hj' := cs j hj hnl
    by_cases ek : k = i
    · subst ek
      exact absurd hr (hfr j hj' (back j hj' hnl) d' hd').1
    · exact hinv.data j hj' (back j hj' hnl) k (by simp at hk; exact hk.resolve_left ek) d' hd' hr
  · have hj' := cs j hj hnl
    by_cases ek : k = i
    · subst ek
      intro hdk
      exact (hfr j hj' (back j hj' hnl) d' hdk).2 hd'
    · exact hinv.uniq j hj' (back j hj' hnl) k (by simp at hk; exact hk.resolve_left ek) hkj d' hd'
theorem a_b {all : Array Oper} {done : List Nat} {i d : Nat} {rest : Pl} {o : Oper} {post : Value → List PH → Prop} (ho : all[i]? = some o) (hl : Loud C R H L o post) (hg : wantE all L o = some true) (hd : o.dst = some d) (hM : Nat.blt d C.M = true)
    (hsub : ∀ v H', post v H' → ∀ w, Sat C.N R H' w → Sat C.N R Hf w)
    (h : ∀ v H', post v H' → DJ C D R Hf H' ((d, v) :: L) all (i :: done) ps (i :: ls) rest K) : ActOK C D R Hf H L all done ps ls i .b rest K :=
  a_bar (L' := fun v => (d, v) :: L) ho hl hg (.inl ⟨d, hd, hM, rfl⟩) hsub h
theorem a_bn {all : Array Oper} {done : List Nat} {i : Nat} {rest : Pl} {o : Oper} {post : Value → List PH → Prop} (ho : all[i]? = some o) (hl : Loud C R H L o post) (hg : wantE all L o = some true) (hd : o.dst = none)
    (hsub : ∀ v H', post v H' → ∀ w, Sat C.N R H' w → Sat C.N R Hf w)
    (h : ∀ v H', post v H' → DJ C D R Hf H' L all (i :: done) ps (i :: ls) rest K) : ActOK C D R Hf H L all done ps ls i .b rest K :=
  a_bar (L' := fun _ => L) ho hl hg (.inr ⟨hd, rfl⟩) hsub h
theorem a_bq {all : Array Oper} {done : List Nat} {i d : Nat} {rest : Pl} {o : Oper} {v : Value} (ho : all[i]? = some o) (hq : Quiet C R H L o v) (hg : wantE all L o = some true) (hd : o.dst = some d) (hM : Nat.blt d C.M = true) (hf : Sel H Hf)
    (h : DJ C D R Hf H ((d, v) :: L) all (i :: done) ps (i :: ls) rest K) : ActOK C D R Hf H L all done ps ls i .b rest K :=
  a_b ho hq.loud hg hd hM (fun _ _ ⟨_, e2⟩ w hw => by subst e2; exact hw.sel hf) (fun u H' ⟨e1, e2⟩ => by subst e1; subst e2; exact h)
end Go.Eng
