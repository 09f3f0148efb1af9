/- Texts of this proof, one after the other; no conditions. -/
import Derived.Test.YtijheemiknkleaaGreatDoorProg
import Derived.Test.YtijheemiknkleaaGreatDoorTie
import Derived.Test.YtijheemiknkleaaGreatDoorCards
import Derived.LaidMore
import Derived.Lay
import Derived.SevenTiedAt
import Derived.Test.YtijheemiknkleaaGreatDoorWB12
import Derived.Test.YtijheemiknkleaaGreatDoorWB2
import Derived.Test.YtijheemiknkleaaGreatDoorWB8
import Derived.Test.YtijheemiknkleaaGreatDoorWB9
import Derived.Test.YtijheemiknkleaaGreatDoorWB5
set_option linter.all false
/- Runs of closed calls, reckoned: a drawn region comes to the same in every order: the steps. No conditions. -/
namespace Go.Ev
open Go.Eng
section
variable {c : RC} {X : Nat → Prop} {D S : List Evt} {h : AH} {ρ : Rn} {η : PH} {a : Act} {w : World}
theorem RC.OK.ancs (ok : c.OK) {A B : List Evt} {e : Evt} (hT : c.T = A ++ e :: B) (cl : Clo c X) (hp : ∀ j ∈ e.d.ps, X j) {j : Nat} (hj : hasB e.am j = true) : X j :=
  (ok.good1 hT).anc X (fun y hy hX => by
    obtain ⟨y', hy', rfl⟩ := List.mem_map.1 hy
    exact cl y' (by rw [hT]; simp [hy']) hX) hp j hj
theorem RC.OK.effs (ok : c.OK) {A B : List Evt} {e : Evt} (hT : c.T = A ++ e :: B) (cl : Clo c X) (hp : ∀ j ∈ e.d.ps, X j) (hk : e.d.k = 1 ∨ e.d.k = 3) {y : Evt} (hy : y ∈ A) (he : effK y.d.k = true) : X y.d.i :=
  ok.ancs hT cl hp ((ok.good1 hT).eff hk (pr y) (List.mem_map.2 ⟨y, hy, rfl⟩) he)
theorem RC.OK.kk (ok : c.OK) {e : Evt} (he : e ∈ c.T) : e.d.k = 0 ∨ e.d.k = 1 ∨ e.d.k = 2 ∨ e.d.k = 3 := by
  rw [(ok.dk he).k]; exact cls_le _
theorem DIx.pass (ok : c.OK) {e : Evt} (di : DIx c X D (e :: S) h ρ η a w) (cl : Clo c X) (hx : effK e.d.k = true → X e.d.i) (hb : effK e.d.k = true → e.b = false) : DIx c X (D ++ [e]) S h ρ η a w := by
  obtain ⟨frS, t⟩ := di.frm
  obtain ⟨k1, k2, k3, k4, k5, fr1, k6, t1⟩ := t.head
  have heT : e ∈ c.T := by rw [di.cat]; simp
  have hsame : e.h' = h ∧ (e.b = true → evQ e.fr h e.d.q.i = some e.v) := by
    cases hbb : e.b with
    | false => exact ⟨(k5 hbb).2, fun h => by cases h⟩
    | true =>
      cases hk : effK e.d.k with
      | true => rw [hb hk] at hbb; cases hbb
      | false =>
        rw [(ok.dk heT).k] at hk
        obtain ⟨q1, q2⟩ := rd_ev (eff_rd hk) (k4 hbb)
        rw [k1]
        exact ⟨q2, fun _ => q1⟩
  have hkk := ok.kk heT
  refine ⟨by rw [di.cat]; simp, ⟨fr1, by rw [← hsame.1]; exact t1⟩, di.lo, fun y hy hk => ?_, fun y hy => di.notS y (by simp [hy]), di.hr, di.upd, di.rle, fun n hn => ?_, fun y hy => di.ext y (by simp [hy]), fun y hy y' hy' => di.dis y (by simp [hy]) y' (by simp [hy']), di.vals, di.base, fun y hy hk hyb hyX => ?_, di.rck.2, di.size, di.dfr⟩
  · rcases List.mem_append.1 hy with hy | hy
    · exact di.doneD y hy hk
    · simp at hy; subst hy; exact hx hk
  · rcases di.rnew n hn with h1 | h1 | ⟨y, hy, h2, h3, h4, h5⟩
    · exact .inl h1
    · exact .inr (.inl h1)
    · rcases List.mem_cons.1 hy with rfl | hy
      · have := hb (by rw [h3]; rfl)
        rw [this] at h4; cases h4
      · exact .inr (.inr ⟨y, hy, h2, h3, h4, h5⟩)
  · rcases List.mem_append.1 hy with hy | hy
    · obtain ⟨q1, q2⟩ := di.late y hy hk hyb hyX
      refine ⟨q1, ?_⟩
      rcases q2.2 with ⟨h1, h2, _⟩ | h2
      · rw [hb h1] at h2; cases h2
      · exact h2
    · simp at hy; subst hy
      exact ⟨hsame.2 hyb, di.rck.1 hk hyb⟩
theorem DIx.merge (ok : c.OK) {e : Evt} (di : DIx c X D (e :: S) h ρ η a w) (cl : Clo c X) (hk : e.d.k = 2) (hb : e.b = true) (hx : X e.d.i) : ∃ η', DIx c X (D ++ [e]) S e.h' ρ η' a w := by
  obtain ⟨frS, t⟩ := di.frm
  obtain ⟨k1, k2, k3, k4, k5, fr1, k6, t1⟩ := t.head
  have heT : e ∈ c.T := by rw [di.cat]; simp
  obtain ⟨b, ob, x, q1, q2, q3, q4, q5, q6⟩ := di.ext e (by simp) hk hb hx
  have hlt := t.lt ok.evn
  have hnx : e.h'.next = e.h.next + 1 := (AH.get_new q5).2
  rw [k2] at q1 q5 hnx
  have hr' := di.hr.add q5 q1 q3 (q6 ρ (fun _ _ h => h))
  refine ⟨setP η b (some ob), by rw [di.cat]; simp, ⟨fr1, t1⟩, Nat.le_trans di.lo hlt.1, fun y hy hk => ?_, fun y hy => di.notS y (by simp [hy]), hr', ?_, di.rle, fun n hn => ?_, fun y hy hyk hyb hyX => ?_, fun y hy y' hy' => di.dis y (by simp [hy]) y' (by simp [hy']), di.vals, di.base, fun y hy hk1 hyb hyX => ?_, di.rck.2, di.size, di.dfr⟩
  · rcases List.mem_append.1 hy with hy | hy
    · exact di.doneD y hy hk
    · simp at hy; subst hy; exact hx
  · refine Upd.one di.upd.size (fun b' hb' hn => di.upd.keep b' hb' (by simpa using hn)) (fun b' o' ho' => ?_) (fun b' hb' => ?_)
    · unfold setP at ho'
      split at ho'
      · rename_i e1; cases ho'; subst e1; exact q2
      · exact di.le b' o' ho'
    · unfold setP at hb'
      split at hb'
      · rename_i e1; right; rw [e1]; exact q4
      · rcases di.upd.new η (by simp) b' hb' with ⟨τ, hτ, h⟩ | h
        · simp at hτ; subst hτ; exact .inl h
        · exact .inr h
  · rcases di.rnew n hn with h1 | h1 | ⟨y, hy, h2, h3, h4, h5⟩
    · exact .inl h1
    · exact .inr (.inl ⟨h1.1, by omega⟩)
    · rcases List.mem_cons.1 hy with rfl | hy
      · refine .inr (.inl ⟨?_, ?_⟩)
        · rw [h5, k2]; exact di.lo
        · rw [h5, k2]; omega
      · exact .inr (.inr ⟨y, hy, h2, h3, h4, h5⟩)
  · obtain ⟨b2, ob2, x2, r1, r2, r3, r4⟩ := di.ext y (by simp [hy]) hyk hyb hyX
    refine ⟨b2, ob2, x2, r1, r2, ?_, r4⟩
    have hne : b2 ≠ b := fun e1 => by
      subst e1
      have := di.dis e (by simp) y (by simp [hy]) hk hyk hb hyb hx hyX b2 (by rw [k2]; exact q1) r1
      have h3 := hlt.2.2 y hy
      rw [k2] at this
      omega
    simp [setP, hne, r3]
  · rcases List.mem_append.1 hy with hy | hy
    · obtain ⟨r1, r2⟩ := di.late y hy hk1 hyb hyX
      have he : effK e.d.k = true := by rw [hk]; rfl
      have hno : ¬ hasB e.am y.d.i = true := fun hh => hyX (ok.ancs di.cat cl (cl e heT hx) hh)
      refine ⟨(r2.1 he hb).resolve_left hno, ?_⟩
      rcases r2.2 with ⟨_, _, h3⟩ | h3
      · exact absurd h3 hno
      · exact h3
    · simp at hy; subst hy
      rw [hk] at hk1; cases hk1
theorem DIx.advance (ok : c.OK) (cl : Clo c X) : ∀ {S D : List Evt} {h : AH} {η : PH}, DIx c X D S h ρ η a w → ∃ D' S' h' η', DIx c X D' S' h' ρ η' a w ∧ (S' = [] ∨ ∃ e S'', S' = e :: S'' ∧ effK e.d.k = true ∧ ¬ X e.d.i)
  | [], D, h, η, di => ⟨D, [], h, η, di, .inl rfl⟩
  | e :: S, D, h, η, di => by
    have heT : e ∈ c.T := by rw [di.cat]; simp
    by_cases hs : effK e.d.k = true ∧ ¬ X e.d.i
    · exact ⟨D, e :: S, h, η, di, .inr ⟨e, S, rfl, hs.1, hs.2⟩⟩
    · have hx : effK e.d.k = true → X e.d.i := fun hk => Classical.byContradiction fun hx => hs ⟨hk, hx⟩
      by_cases hb : effK e.d.k = true ∧ e.b = true
      · have hk : e.d.k = 2 := by
          rcases ok.kk heT with h | h | h | h
          · rw [h] at hb; cases hb.1
          · rw [h] at hb; cases hb.1
          · exact h
          · exact absurd (hx hb.1) (di.notS e (by simp) h)
        obtain ⟨η', di'⟩ := di.merge ok cl hk hb.2 (hx hb.1)
        exact di'.advance ok cl
      · have di' := di.pass ok cl hx (fun hk => by
          cases hbb : e.b with
          | false => rfl
          | true => exact absurd ⟨hk, hbb⟩ hb)
        exact di'.advance ok cl
theorem DIx.reads (ok : c.OK) (di : DIx c X D S h ρ η a w) {e : Evt} (he : e ∈ c.T) (hp : ∀ j ∈ e.d.ps, X j) : ∀ t ∈ e.d.rs, ∀ v, e.fr.get t = some v → ∃ u, rn ρ v = some u ∧ a.tmps.getD t undef = u := by
  intro t ht v hv
  obtain ⟨A, B, hT⟩ := List.append_of_mem he
  have htr := ok.tr
  rw [hT] at htr
  obtain ⟨fr1, h1, t1, t2⟩ := htr.split
  rw [t2.head.1] at hv
  have g := ok.good1 hT
  have hps : ∀ y ∈ c.T, y.d.q.d = some t → y.d.i ∈ e.d.ps := fun y hy hyt => g.rds t ht _ (ok.slot hy hyt)
  rcases t1.get t v hv with ⟨y, hy, h2, h3⟩ | ⟨h2, h3⟩
  · have hyT : y ∈ c.T := by rw [hT]; simp [hy]
    rw [← h3]
    exact di.vals y hyT (hp _ (hps y hyT h2)) t h2
  · refine di.base t (fun y hy hyt => ?_) v h2
    obtain ⟨y', hy', hyi⟩ := idx_pr.1 (g.pre _ (hps y hy hyt))
    have : y' = y := ok.uniq (by rw [hT]; simp [hy']) hy hyi
    subst this
    exact h3 y' hy' hyt
theorem DIx.put (ok : c.OK) (di : DIx c X D S h ρ η a w) {e : Evt} (he : e ∈ c.T) {ρ' : Rn} (hle : ρ.le ρ') {u : Value} (hu : rn ρ' e.v = some u) :
    (∀ y ∈ c.T, (X y.d.i ∨ y.d.i = e.d.i) → ∀ s, y.d.q.d = some s → ∃ u', rn ρ' y.v = some u' ∧ (a.put e.d.q.d u).tmps.getD s undef = u') ∧
    (∀ t, (∀ y ∈ c.T, y.d.q.d ≠ some t) → ∀ v, c.fr0.get t = some v → ∃ u', rn ρ' v = some u' ∧ (a.put e.d.q.d u).tmps.getD t undef = u') ∧ (a.put e.d.q.d u).tmps.size = c.M ∧ (a.put e.d.q.d u).defers = c.df := by
  have hlt := (ok.tr.at he).2.2.2
  cases hd : e.d.q.d with
  | none =>
    refine ⟨fun y hy hX s hs => ?_, fun t ht v hv => ?_, di.size, di.dfr⟩
    · rcases hX with hX | hX
      · obtain ⟨u', h1, h2⟩ := di.vals y hy hX s hs; exact ⟨u', rn_mono hle h1, h2⟩
      · have := ok.uniq hy he hX; subst this; rw [hd] at hs; cases hs
    · obtain ⟨u', h1, h2⟩ := di.base t ht v hv; exact ⟨u', rn_mono hle h1, h2⟩
  | some d =>
    have hdm : d < a.tmps.size := by rw [di.size]; exact hlt d hd
    refine ⟨fun y hy hX s hs => ?_, fun t ht v hv => ?_, by simp [Act.put, di.size], di.dfr⟩
    · by_cases e1 : y.d.i = e.d.i
      · have := ok.uniq hy he e1; subst this
        rw [hd] at hs; cases hs
        exact ⟨u, hu, by rw [put_at hdm, if_pos rfl]⟩
      · have hne : s ≠ d := fun e2 => by
          subst e2
          have h1 := ok.slot hy hs
          have h2 := ok.slot he hd
          rw [h1, Option.some.injEq] at h2; exact e1 h2
        obtain ⟨u', h1, h2⟩ := di.vals y hy (hX.resolve_right e1) s hs
        exact ⟨u', rn_mono hle h1, by rw [put_at hdm, if_neg hne]; exact h2⟩
    · have hne : t ≠ d := fun e2 => by subst e2; exact ht e he hd
      obtain ⟨u', h1, h2⟩ := di.base t ht v hv
      exact ⟨u', rn_mono hle h1, by rw [put_at hdm, if_neg hne]; exact h2⟩
end
end Go.Ev
/- Runs of closed calls, reckoned: a drawn region comes to the same in every order: one operation. No conditions. -/
namespace Go.Ev
open Go.Eng
section
variable {c : RC} {X : Nat → Prop} {D S : List Evt} {h : AH} {ρ : Rn} {η : PH} {a : Act} {w : World} {r : Option Nat} {Q : Exit → Act → World → Prop} {K : Act → World → Prop}
abbrev XI (X : Nat → Prop) (i : Nat) : Nat → Prop := fun j => X j ∨ j = i
abbrev NextQ (c : RC) (X : Nat → Prop) (i : Nat) (K : Act → World → Prop) : Prop := ∀ D S h ρ η a w, DIx c (XI X i) D S h ρ η a w → K a w
theorem DIx.quiet (ok : c.OK) (di : DIx c X D S h ρ η a w) {e : Evt} (he : e ∈ c.T) (hx : ¬ X e.d.i) {u : Value} (hu : rn ρ e.v = some u) (h3 : e.d.k = 3 → e ∉ S) (h2 : e.d.k = 2 → e.b = false) : DIx c (XI X e.d.i) D S h ρ η (a.put e.d.q.d u) w := by
  obtain ⟨p1, p2, p3, p4⟩ := di.put ok he (fun _ _ h => h) hu
  have hT : ∀ y ∈ S, y ∈ c.T := fun y hy => by rw [di.cat]; simp [hy]
  have hTD : ∀ y ∈ D, y ∈ c.T := fun y hy => by rw [di.cat]; simp [hy]
  have back : ∀ y ∈ S, y.d.k = 2 → y.b = true → XI X e.d.i y.d.i → X y.d.i := fun y hy hk hb hX => by
    rcases hX with hX | hX
    · exact hX
    · have := ok.uniq (hT y hy) he hX; subst this
      rw [h2 hk] at hb; cases hb
  refine ⟨di.cat, di.frm, di.lo, fun y hy hk => .inl (di.doneD y hy hk), fun y hy hk hX => ?_, di.hr, di.upd, di.rle, fun n hn => ?_, fun y hy hk hb hX => di.ext y hy hk hb (back y hy hk hb hX), fun y hy y' hy' k1 k2 b1 b2 x1 x2 => di.dis y hy y' hy' k1 k2 b1 b2 (back y hy k1 b1 x1) (back y' hy' k2 b2 x2), p1, p2, fun y hy hk hb hX => di.late y hy hk hb (fun h => hX (.inl h)), di.rck, p3, p4⟩
  · rcases hX with hX | hX
    · exact di.notS y hy hk hX
    · have := ok.uniq (hT y hy) he hX; subst this
      exact h3 hk hy
  · rcases di.rnew n hn with h1 | h1 | ⟨y, hy, q⟩
    · exact .inl h1
    · exact .inr (.inl h1)
    · exact .inr (.inr ⟨y, hy, .inl q.1, q.2⟩)
theorem DIx.early (ok : c.OK) (di : DIx c X D S h ρ η a w) {e : Evt} (he : e ∈ S) (hx : ¬ X e.d.i) (hk : e.d.k = 2) (hb : e.b = true) (hn : ρ e.h.next = none) {x : AO} {ob : Obj} {u : Value} (q1 : e.h.new x = some e.h')
    (q3 : rn (setR ρ e.h.next (w.heap.size, 0, 0)) e.v = some u) (q4 : ∀ ρ', ρ.le ρ' → OR c.P ρ' 0 0 x ob) : DIx c (XI X e.d.i) D S h (setR ρ e.h.next (w.heap.size, 0, 0)) η (a.put e.d.q.d u) (w.alloc ob) := by
  have hT : ∀ y ∈ S, y ∈ c.T := fun y hy => by rw [di.cat]; simp [hy]
  have hle := setR_le (x := (w.heap.size, 0, 0)) hn
  obtain ⟨p1, p2, p3, p4⟩ := di.put ok (hT e he) hle q3
  have ual : Upd [η] [η] w (w.alloc ob) := Upd.one ⟨by simp, rfl, rfl, rfl, Nat.le_refl _⟩ (fun b hb _ => heap_alloc_old w ob hb) (fun b o hb => by
    have h1 := di.le b o hb
    have h2 := di.le.lt (b := b) (by rw [hb]; simp)
    rw [heap_alloc_old w ob h2]; exact h1) (fun b hb => .inl hb)
  have hold : ∀ y ∈ S, y.d.k = 2 → y.b = true → X y.d.i → ∃ b2 ob2 x2, (setR ρ e.h.next (w.heap.size, 0, 0)) y.h.next = some (b2, 0, 0) ∧ b2 < w.heap.size ∧ (w.alloc ob).heap[b2]? = some ob2 ∧ η b2 = none ∧ c.w0.heap.size ≤ b2 ∧ y.h.new x2 = some y.h' ∧ ∀ ρ', (setR ρ e.h.next (w.heap.size, 0, 0)).le ρ' → OR c.P ρ' 0 0 x2 ob2 := fun y hy k b hX => by
    obtain ⟨b2, ob2, x2, r1, r2, r3, r4, r5, r6⟩ := di.ext y hy k b hX
    have hlt := (Array.getElem?_eq_some_iff.1 r2).1
    exact ⟨b2, ob2, x2, hle _ _ r1, hlt, by rw [heap_alloc_old w ob hlt]; exact r2, r3, r4, r5, fun ρ' hl => r6 ρ' (fun i x h => hl _ _ (hle _ _ h))⟩
  refine ⟨di.cat, di.frm, di.lo, fun y hy hk => .inl (di.doneD y hy hk), fun y hy hk3 hX => ?_, di.hr.mono hle, Upd.comp di.upd ual, fun i x h => hle _ _ (di.rle _ _ h), fun n hn => ?_, fun y hy k b hX => ?_, fun y hy y' hy' k1 k2 b1 b2 x1 x2 bb e1 e2 => ?_, p1, p2, fun y hy hk hb hX => di.late y hy hk hb (fun h => hX (.inl h)), di.rck, p3, p4⟩
  · rcases hX with hX | hX
    · exact di.notS y hy hk3 hX
    · have := ok.uniq (hT y hy) (hT e he) hX; subst this
      rw [hk] at hk3; cases hk3
  · unfold setR at hn
    split at hn
    · rename_i e1
      exact .inr (.inr ⟨e, he, .inr rfl, hk, hb, e1⟩)
    · rcases di.rnew n hn with h1 | h1 | ⟨y, hy, q⟩
      · exact .inl h1
      · exact .inr (.inl h1)
      · exact .inr (.inr ⟨y, hy, .inl q.1, q.2⟩)
  · rcases hX with hX | hX
    · obtain ⟨b2, ob2, x2, r1, _, r2, r3⟩ := hold y hy k b hX
      exact ⟨b2, ob2, x2, r1, r2, r3⟩
    · have := ok.uniq (hT y hy) (hT e he) hX; subst this
      exact ⟨w.heap.size, ob, x, rn_new, heap_alloc_new w ob, le_none di.le, di.upd.size.1, q1, fun ρ' hl => q4 ρ' (fun i x h => hl _ _ (hle _ _ h))⟩
  · have low : ∀ y ∈ S, y.d.k = 2 → y.b = true → X y.d.i → ∀ bb, (setR ρ e.h.next (w.heap.size, 0, 0)) y.h.next = some (bb, 0, 0) → bb < w.heap.size := fun y hy k b hX bb e3 => by
      obtain ⟨b2, ob2, x2, r1, r2, _⟩ := hold y hy k b hX
      rw [e3] at r1; cases r1; exact r2
    have new : ∀ y ∈ S, y.d.i = e.d.i → ∀ bb, (setR ρ e.h.next (w.heap.size, 0, 0)) y.h.next = some (bb, 0, 0) → bb = w.heap.size ∧ y = e := fun y hy hX bb e3 => by
      have := ok.uniq (hT y hy) (hT e he) hX; subst this
      rw [rn_new] at e3; cases e3; exact ⟨rfl, rfl⟩
    rcases x1 with x1 | x1 <;> rcases x2 with x2 | x2
    · have n1 : ∀ y ∈ S, y.d.k = 2 → y.b = true → X y.d.i → (setR ρ e.h.next (w.heap.size, 0, 0)) y.h.next = some (bb, 0, 0) → ρ y.h.next = some (bb, 0, 0) := fun y hy k b hX e3 => by
        obtain ⟨b2, ob2, x2, r1, _⟩ := di.ext y hy k b hX
        have := hle _ _ r1
        rw [e3] at this; rw [r1, this]
      exact di.dis y hy y' hy' k1 k2 b1 b2 x1 x2 bb (n1 y hy k1 b1 x1 e1) (n1 y' hy' k2 b2 x2 e2)
    · have l1 := low y hy k1 b1 x1 bb e1
      have l2 := (new y' hy' x2 bb e2).1
      omega
    · have l1 := low y' hy' k2 b2 x2 bb e2
      have l2 := (new y hy x1 bb e1).1
      omega
    · rw [(new y hy x1 bb e1).2, (new y' hy' x2 bb e2).2]
theorem DIx.act (ok : c.OK) {e : Evt} (di : DIx c X D (e :: S) h ρ η a w) (cl : Clo c X) (hp : ∀ j ∈ e.d.ps, X j) (hx : ¬ X e.d.i) (hk : e.d.k = 3) (hb : e.b = true) {ρ' : Rn} {η' : PH} {w' : World} {u : Value} (hu : rn ρ' e.v = some u) (af : After c.P ρ η w h e.h' ρ' η' w') :
    DIx c (XI X e.d.i) (D ++ [e]) S e.h' ρ' η' (a.put e.d.q.d u) w' := by
  obtain ⟨frS, t⟩ := di.frm
  obtain ⟨k1, k2, k3, k4, k5, fr1, k6, t1⟩ := t.head
  have hT : ∀ y ∈ S, y ∈ c.T := fun y hy => by rw [di.cat]; simp [hy]
  have heT : e ∈ c.T := by rw [di.cat]; simp
  obtain ⟨hr', hu', hx'⟩ := af
  have hle := hx'.1
  obtain ⟨p1, p2, p3, p4⟩ := di.put ok heT hle hu
  have hlt := t.lt ok.evn
  have heff : effK e.d.k = true := by rw [hk]; rfl
  have ne : ∀ y ∈ S, y.d.i ≠ e.d.i := fun y hy e1 => by
    have g := ok.good1 (A := D) (B := S) (e := e) di.cat
    obtain ⟨B1, B2, hB⟩ := List.append_of_mem hy
    have g2 := ok.good1 (A := D ++ e :: B1) (B := B2) (e := y) (by rw [di.cat, hB]; simp)
    exact g2.new (idx_pr.2 ⟨e, by simp, e1.symm⟩)
  have backX : ∀ y ∈ S, XI X e.d.i y.d.i → X y.d.i := fun y hy hX => hX.resolve_right (ne y hy)
  have ex : ∀ y ∈ S, y.d.k = 2 → y.b = true → X y.d.i → ∃ b ob x, ρ y.h.next = some (b, 0, 0) ∧ ρ' y.h.next = some (b, 0, 0) ∧ w'.heap[b]? = some ob ∧ η' b = none ∧ c.w0.heap.size ≤ b ∧ y.h.new x = some y.h' ∧ ∀ ρ2, ρ'.le ρ2 → OR c.P ρ2 0 0 x ob := fun y hy k b hX => by
    obtain ⟨b2, ob2, x2, r1, r2, r3, r4, r5, r6⟩ := di.ext y (by simp [hy]) k b hX
    have hlt2 := (Array.getElem?_eq_some_iff.1 r2).1
    refine ⟨b2, ob2, x2, r1, hle _ _ r1, ?_, ?_, r4, r5, fun ρ2 hl => r6 ρ2 (fun i x h => hl _ _ (hle _ _ h))⟩
    · rw [hu'.keep b2 hlt2 (fun σ hσ => by simp at hσ; subst hσ; exact r3)]; exact r2
    · cases e2 : η' b2 with
      | none => rfl
      | some o2 =>
        rcases hu'.new η' (by simp) b2 (by rw [e2]; simp) with ⟨τ, hτ, h⟩ | h
        · simp at hτ; subst hτ; exact absurd r3 h
        · omega
  refine ⟨by rw [di.cat]; simp, ⟨fr1, t1⟩, Nat.le_trans di.lo hlt.1, fun y hy hky => ?_, fun y hy hk3 hX => di.notS y (by simp [hy]) hk3 (backX y hy hX), hr', Upd.comp di.upd hu', fun i x h => hle _ _ (di.rle _ _ h), fun n hn => ?_, fun y hy k b hX => ?_, fun y hy y' hy' k1 k2 b1 b2 x1 x2 bb e1 e2 => ?_, p1, p2, fun y hy hk1 hyb hyX => ?_, di.rck.2, p3, p4⟩
  · rcases List.mem_append.1 hy with hy | hy
    · exact .inl (di.doneD y hy hky)
    · simp at hy; subst hy; exact .inr rfl
  · rcases hx'.2 n hn with h1 | h1
    · rcases di.rnew n h1 with h1 | h1 | ⟨y, hy, h2, h3, h4⟩
      · exact .inl h1
      · exact .inr (.inl ⟨h1.1, by have := hlt.1; omega⟩)
      · rcases List.mem_cons.1 hy with rfl | hy
        · exact absurd h2 hx
        · exact .inr (.inr ⟨y, hy, .inl h2, h3, h4⟩)
    · exact .inr (.inl ⟨Nat.le_trans di.lo h1.1, h1.2⟩)
  · obtain ⟨b2, ob2, x2, _, r1, r2, r3⟩ := ex y hy k b (backX y hy hX)
    exact ⟨b2, ob2, x2, r1, r2, r3⟩
  · obtain ⟨c1, _, _, r1, r2, _⟩ := ex y hy k1 b1 (backX y hy x1)
    obtain ⟨c2, _, _, s1, s2, _⟩ := ex y' hy' k2 b2 (backX y' hy' x2)
    rw [e1] at r2; cases r2
    rw [e2] at s2; cases s2
    exact di.dis y (by simp [hy]) y' (by simp [hy']) k1 k2 b1 b2 (backX y hy x1) (backX y' hy' x2) bb r1 s1
  · rcases List.mem_append.1 hy with hy | hy
    · obtain ⟨r1, r2⟩ := di.late y hy hk1 hyb (fun h => hyX (.inl h))
      have hno : ¬ hasB e.am y.d.i = true := fun hh => hyX (.inl (ok.ancs di.cat cl hp hh))
      refine ⟨(r2.1 heff hb).resolve_left hno, ?_⟩
      rcases r2.2 with ⟨_, _, h3⟩ | h3
      · exact absurd h3 hno
      · exact h3
    · simp at hy; subst hy; exact absurd (.inr rfl) hyX
theorem DIx.step (ok : c.OK) (cl : Clo c X) (di : DIx c X D S h ρ η a w) (hd : S = [] ∨ ∃ e S', S = e :: S' ∧ effK e.d.k = true ∧ ¬ X e.d.i) {e : Evt} (he : e ∈ c.T) (hx : ¬ X e.d.i) (hp : ∀ j ∈ e.d.ps, X j) (hK : NextQ c X e.d.i K) :
    wpOpIn (wideR r) 0 c.P c.ops Q e.d.i K a w := by
  obtain ⟨o, ho, hq, hps, hrs⟩ := (ok.dk he).o
  have hkk := (ok.dk he).k
  obtain ⟨hi, hdst⟩ := op1_i hq
  have hread := di.reads ok he hp
  rw [hrs] at hread
  obtain ⟨g1, g2, g3, g4⟩ := ok.tr.at he
  have hw := want_fr2 hq g1 hread
  have hek := ek_rds hread
  unfold wpOpIn
  rw [ho]
  simp only
  -- where it lies
  have inS : ∀ (hk : effK e.d.k = true), ∃ D1 S1, S = D1 ++ e :: S1 := fun hk => by
    have := he
    rw [di.cat] at this
    rcases List.mem_append.1 this with h1 | h1
    · exact absurd (di.doneD e h1 hk) hx
    · exact List.append_of_mem h1
  have first : e.d.k = 1 ∨ e.d.k = 3 → ∀ D1 S1, S = D1 ++ e :: S1 → D1 = [] ∧ effK e.d.k = true := fun hk D1 S1 hS => by
    rcases hd with hd | ⟨e0, S0, hS0, h1, h2⟩
    · rw [hd] at hS; cases D1 <;> cases hS
    · cases D1 with
      | nil => rw [hS0] at hS; cases hS; exact ⟨rfl, h1⟩
      | cons y D1 =>
        rw [hS0] at hS; cases hS
        exact absurd (ok.effs (A := D ++ e0 :: D1) (B := S1) (by rw [di.cat, hS0]; simp) cl hp hk (by simp) h1) h2
  cases hb : e.b with
  | false =>
    rw [hb] at hw
    simp only [hw, Bool.false_eq_true, if_false]
    refine ⟨fun _ _ => trivial, ?_⟩
    have hv := (g3 hb).1
    rw [← hdst]
    by_cases hk : e.d.k = 3
    · obtain ⟨D1, S1, hS⟩ := inS (by rw [hk]; rfl)
      obtain ⟨rfl, _⟩ := first (.inr hk) D1 S1 hS
      simp only [List.nil_append] at hS
      subst hS
      have heff : effK e.d.k = true := by rw [hk]; rfl
      have cl' : Clo c (XI X e.d.i) := fun y hy hX j hj => by
        rcases hX with hX | hX
        · exact .inl (cl y hy hX j hj)
        · have := ok.uniq hy he hX; subst this; exact .inl (hp j hj)
      -- passed first, then the slot
      have d0 : DIx c (XI X e.d.i) (D ++ [e]) S1 h ρ η (a.put e.d.q.d undef) w := by
        obtain ⟨frS, t⟩ := di.frm
        obtain ⟨k1, k2, k3, k4, k5, fr1, k6, t1⟩ := t.head
        have hsame := (k5 hb).2
        obtain ⟨p1, p2, p3, p4⟩ := di.put ok he (fun _ _ h => h) (u := undef) (by rw [hv]; rfl)
        have hT : ∀ y ∈ S1, y ∈ c.T := fun y hy => by rw [di.cat]; simp [hy]
        have ne : ∀ y ∈ S1, y.d.i ≠ e.d.i := fun y hy e1 => by
          obtain ⟨B1, B2, hB⟩ := List.append_of_mem hy
          have g2 := ok.good1 (A := D ++ e :: B1) (B := B2) (e := y) (by rw [di.cat, hB]; simp)
          exact g2.new (idx_pr.2 ⟨e, by simp, e1.symm⟩)
        have backX : ∀ y ∈ S1, XI X e.d.i y.d.i → X y.d.i := fun y hy hX => hX.resolve_right (ne y hy)
        refine ⟨by rw [di.cat]; simp, ⟨fr1, by rw [← hsame]; exact t1⟩, di.lo, fun y hy hky => ?_, fun y hy hk3 hX => di.notS y (by simp [hy]) hk3 (backX y hy hX), di.hr, di.upd, di.rle, fun n hn => ?_, fun y hy k b hX => di.ext y (by simp [hy]) k b (backX y hy hX), fun y hy y' hy' k1 k2 b1 b2 x1 x2 => di.dis y (by simp [hy]) y' (by simp [hy']) k1 k2 b1 b2 (backX y hy x1) (backX y' hy' x2), p1, p2, fun y hy hk1 hyb hyX => ?_, di.rck.2, p3, p4⟩
        · rcases List.mem_append.1 hy with hy | hy
          · exact .inl (di.doneD y hy hky)
          · simp at hy; subst hy; exact .inr rfl
        · rcases di.rnew n hn with h1 | h1 | ⟨y, hy, h2, h3, h4⟩
          · exact .inl h1
          · exact .inr (.inl h1)
          · rcases List.mem_cons.1 hy with rfl | hy
            · exact absurd h2 hx
            · exact .inr (.inr ⟨y, hy, .inl h2, h3, h4⟩)
        · rcases List.mem_append.1 hy with hy | hy
          · obtain ⟨r1, r2⟩ := di.late y hy hk1 hyb (fun h => hyX (.inl h))
            refine ⟨r1, ?_⟩
            rcases r2.2 with ⟨_, h2, _⟩ | h3
            · rw [hb] at h2; cases h2
            · exact h3
          · simp at hy; subst hy; exact absurd (.inr rfl) hyX
      exact hK _ _ _ _ _ _ _ d0
    · exact hK _ _ _ _ _ _ _ (di.quiet ok he hx (by rw [hv]; rfl) (fun h => absurd h hk) (fun _ => hb))
  | true =>
    rw [hb] at hw
    simp only [hw, if_true]
    have hev := g2 hb
    rcases ok.kk he with hk | hk | hk | hk
    · -- slots alone
      have hrd := eff_rd (i := e.d.q.i) (by rw [← hkk, hk]; rfl)
      obtain ⟨e1, _⟩ := rd_ev hrd hev
      rw [cls0 (by rw [← hkk, hk]) e.fr e.h h] at e1
      obtain ⟨u, q1, q2⟩ := evQ_run (w := w) hi e1 di.hr di.le trivial hek
      refine ⟨fun _ _ => trivial, ?_⟩
      rw [Oper.semAt_eq _ _ _ (not_defer hi), q2]
      show K (a.put o.dst u) _
      rw [← hdst]
      exact hK _ _ _ _ _ _ _ (di.quiet ok he hx q1 (fun h => by rw [hk] at h; cases h) (fun h => by rw [hk] at h; cases h))
    · -- a read
      have hD : e ∈ D := by
        have := he
        rw [di.cat] at this
        rcases List.mem_append.1 this with h1 | h1
        · exact h1
        · obtain ⟨D1, S1, hS⟩ := List.append_of_mem h1
          have := (first (.inl hk) D1 S1 hS).2
          rw [hk] at this; cases this
      obtain ⟨e1, _⟩ := di.late e hD hk hb hx
      obtain ⟨u, q1, q2⟩ := evQ_run (w := w) hi e1 di.hr di.le trivial hek
      refine ⟨fun _ _ => trivial, ?_⟩
      rw [Oper.semAt_eq _ _ _ (not_defer hi), q2]
      show K (a.put o.dst u) _
      rw [← hdst]
      exact hK _ _ _ _ _ _ _ (di.quiet ok he hx q1 (fun h => by rw [hk] at h; cases h) (fun h => by rw [hk] at h; cases h))
    · -- a new block
      obtain ⟨D1, S1, hS⟩ := inS (by rw [hk]; rfl)
      obtain ⟨x, ob, u, q1, q2, q3, q4⟩ := new_ok (w := w) hi (by rw [← hkk, hk]) hev hek
      have hnx := (AH.get_new q1).2
      have hpos : h.next ≤ e.h.next ∧ e.h'.next ≤ c.hN.next := by
        obtain ⟨frS, t⟩ := di.frm
        rw [hS] at t
        obtain ⟨fr2, h2, t2, t3⟩ := t.split
        have := t2.next ok.evn
        have h3 := (t3.lt ok.evn).2.1
        rw [t3.head.2.1]
        exact ⟨this, h3⟩
      have hn : ρ e.h.next = none := by
        cases e2 : ρ e.h.next with
        | none => rfl
        | some z =>
          exfalso
          rcases di.rnew e.h.next (by rw [e2]; simp) with h1 | h1 | ⟨y, hy, h2, h3, h4, h5⟩
          · exact h1 (ok.fresh _ (Nat.le_trans di.lo hpos.1) (by omega))
          · omega
          · -- another that came early bears another number
            obtain ⟨b, ob, x', _, _, _, _, r5, _⟩ := di.ext y hy h3 h4 h2
            have hny := (AH.get_new r5).2
            obtain ⟨frS, t⟩ := di.frm
            rw [hS] at t hy
            rcases List.mem_append.1 hy with hy | hy
            · obtain ⟨B1, B2, hB⟩ := List.append_of_mem hy
              rw [hB, List.append_assoc] at t
              obtain ⟨fr3, h3', _, t3⟩ := t.split
              have := (t3.lt ok.evn).2.2 e (by simp)
              omega
            · rcases List.mem_cons.1 hy with rfl | hy
              · exact hx h2
              · obtain ⟨fr3, h3', _, t3⟩ := t.split
                have := (t3.lt ok.evn).2.2 y hy
                omega
      refine ⟨fun _ _ => trivial, ?_⟩
      rw [Oper.semAt_eq _ _ _ (not_defer hi), q2]
      show K (a.put o.dst u) _
      rw [← hdst]
      exact hK _ _ _ _ _ _ _ (di.early ok (by rw [hS]; simp) hx hk hb hn q1 q3 q4)
    · -- an act
      obtain ⟨D1, S1, hS⟩ := inS (by rw [hk]; rfl)
      obtain ⟨rfl, _⟩ := first (.inr hk) D1 S1 hS
      simp only [List.nil_append] at hS
      subst hS
      have hh : e.h = h := by obtain ⟨frS, t⟩ := di.frm; exact t.head.2.1
      have hnN : e.h'.next ≤ c.hN.next := by obtain ⟨frS, t⟩ := di.frm; exact (t.lt ok.evn).2.1
      rw [hh] at hev
      refine op_wp ok.cf ok.yf hi hev rfl trivial hek di.hr di.le (fun n n1 n2 => ?_) (fun u ρ' η' w' s1 s2 => ?_)
      · cases e2 : ρ n with
        | none => rfl
        | some z =>
          exfalso
          rcases di.rnew n (by rw [e2]; simp) with h1 | h1 | ⟨y, hy, h2, h3, h4, h5⟩
          · exact h1 (ok.fresh _ (Nat.le_trans di.lo n1) (by omega))
          · omega
          · obtain ⟨frS, t⟩ := di.frm
            rcases List.mem_cons.1 hy with rfl | hy
            · exact hx h2
            · have := (t.lt ok.evn).2.2 y hy
              omega
      · rw [← hdst]
        exact hK _ _ _ _ _ _ _ (di.act ok cl hp hx hk hb s1 s2)
end
end Go.Ev
/- Runs of closed calls, reckoned: drawn regions, all code, closed calls: what is reckoned is what the program does. No conditions. -/
namespace Go.Ev
open Go.Eng
section
variable {c : RC} {r : Option Nat} {Q : Exit → Act → World → Prop}
theorem pred_lt {listed : Array Bool} {j : Nat} (h : listed.getD j false = true) : j < listed.size := by
  cases hb : listed[j]? with
  | none => simp [Array.getD_eq_getD_getElem?, hb] at h
  | some b => exact (Array.getElem?_eq_some_iff.1 hb).1
theorem preds_eq (ok : c.OK) {e : Evt} (he : e ∈ c.T) : predsOf c.ops e.d.i = e.d.ps ∧ e.d.i < c.ops.size := by
  obtain ⟨o, ho, _, hps, _⟩ := (ok.dk he).o
  refine ⟨?_, (Array.getElem?_eq_some_iff.1 ho).1⟩
  unfold predsOf
  rw [ho, hps]; rfl
theorem some_ready (ok : c.OK) {listed : Array Bool} (hs : listed.size = c.ops.size) : ∀ {B A : List Evt}, c.T = A ++ B → (∀ y ∈ A, isL listed y.d.i) → (∃ y ∈ B, ¬ isL listed y.d.i) → ∃ m, m ∈ Region.ready .any c.ops listed
  | [], A, hT, hA, ⟨y, hy, _⟩ => by cases hy
  | e :: B, A, hT, hA, ⟨y, hy, hyn⟩ => by
    by_cases hl : isL listed e.d.i
    · refine some_ready ok hs (B := B) (A := A ++ [e]) (by rw [hT]; simp) (fun z hz => ?_) ⟨y, ?_, hyn⟩
      · rcases List.mem_append.1 hz with hz | hz
        · exact hA z hz
        · simp at hz; subst hz; exact hl
      · rcases List.mem_cons.1 hy with rfl | hy
        · exact absurd hl hyn
        · exact hy
    · have he : e ∈ c.T := by rw [hT]; simp
      obtain ⟨h1, h2⟩ := preds_eq ok he
      refine ⟨e.d.i, Eng.mem_ready.2 ⟨h2, hl, fun j hj => ?_⟩⟩
      rw [h1] at hj
      obtain ⟨y', hy', hyi⟩ := idx_pr.1 ((ok.good1 hT).pre j hj)
      have hyT : y' ∈ c.T := by rw [hT]; simp [hy']
      rw [← hyi]
      exact (getD_isL hs (preds_eq ok hyT).2).2 (hA y' hy')
theorem any_ok (ok : c.OK) (hQ : ∀ ρ η a w, HR c.P ρ c.hN η → Upd [c.η0] [η] c.w0 w → Ext c.ρ0 ρ c.h0.next c.hN.next → a.tmps.size = c.M → a.defers = c.df → FK ρ c.frN (fun t => a.tmps.getD t undef) → Q .normal a w) :
    ∀ fuel (listed : Array Bool) a w, listed.size = c.ops.size → Clo c (isL listed) → ((List.range c.ops.size).filter fun i => !listed.getD i true).length ≤ fuel → (∃ D S h ρ η, DIx c (isL listed) D S h ρ η a w) →
      wpAnyIn (wideR r) 0 c.P .any c.ops Q fuel listed a w := by
  have fin : ∀ (listed : Array Bool) a w, listed.size = c.ops.size → Clo c (isL listed) → (∃ D S h ρ η, DIx c (isL listed) D S h ρ η a w) → Region.ready .any c.ops listed = [] → Q .normal a w := by
    intro listed a w hs cl ⟨D, S, h, ρ, η, di⟩ hr
    obtain ⟨D', S', h', η', di', hd⟩ := di.advance ok cl
    have hall : ∀ y ∈ c.T, isL listed y.d.i := fun y hy => Classical.byContradiction fun hn => by
      obtain ⟨m, hm⟩ := some_ready ok hs (A := []) (B := c.T) rfl (fun _ h => by cases h) ⟨y, hy, hn⟩
      rw [hr] at hm; cases hm
    have hS : S' = [] := by
      rcases hd with hd | ⟨e, S'', rfl, _, h2⟩
      · exact hd
      · exact absurd (hall e (by rw [di'.cat]; simp)) h2
    subst hS
    obtain ⟨frS, t⟩ := di'.frm
    cases t
    refine hQ ρ η' a w di'.hr di'.upd ⟨di'.rle, fun n hn => ?_⟩ di'.size di'.dfr (fun t v hv => ?_)
    · rcases di'.rnew n hn with h1 | h1 | ⟨y, hy, _⟩
      · exact .inl h1
      · exact .inr h1
      · cases hy
    · rcases ok.tr.get t v hv with ⟨y, hy, h2, h3⟩ | ⟨h2, h3⟩
      · rw [← h3]; exact di'.vals y hy (hall y hy) t h2
      · exact di'.base t h3 v h2
  intro fuel
  induction fuel with
  | zero =>
    intro listed a w hs cl hf hd
    have hr : Region.ready .any c.ops listed = [] := by
      cases hr : Region.ready .any c.ops listed with
      | nil => rfl
      | cons m l =>
        exfalso
        obtain ⟨h1, h2, _⟩ := Eng.mem_ready.1 (show m ∈ Region.ready .any c.ops listed by rw [hr]; simp)
        have : m ∈ (List.range c.ops.size).filter fun i => !listed.getD i true := by
          rw [List.mem_filter]
          exact ⟨by simpa using h1, by unfold isL at h2; simpa using h2⟩
        have := List.length_pos_of_mem this
        omega
    exact ⟨hr, fin listed a w hs cl hd hr⟩
  | succ fuel ih =>
    intro listed a w hs cl hf hdi
    refine ⟨fun hr => fin listed a w hs cl hdi hr, fun m hm => ?_⟩
    obtain ⟨D, S, h, ρ, η, di⟩ := hdi
    obtain ⟨D', S', h', η', di', hd⟩ := di.advance ok cl
    obtain ⟨h1, h2, h3⟩ := Eng.mem_ready.1 hm
    obtain ⟨e, he, rfl⟩ := ok.cov h1
    obtain ⟨p1, p2⟩ := preds_eq ok he
    rw [p1] at h3
    have hms : e.d.i < listed.size := by rw [hs]; exact h1
    have hX : (XI (isL listed) e.d.i) = isL (listed.setIfInBounds e.d.i true) := funext fun j => propext (by rw [isL_set hms]; exact Or.comm)
    refine di'.step ok cl hd he h2 (fun j hj => (getD_isL hs (by rw [← hs]; exact pred_lt (h3 j hj))).1 (h3 j hj)) (fun D2 S2 h2' ρ2 η2 a2 w2 d2 => ?_)
    rw [hX] at d2
    refine ih _ a2 w2 (by simp [hs]) (fun y hy hy2 j hj => ?_) ?_ ⟨D2, S2, h2', ρ2, η2, d2⟩
    · rw [← hX] at hy2 ⊢
      rcases hy2 with hy2 | hy2
      · exact .inl (cl y hy hy2 j hj)
      · have := ok.uniq hy he hy2; subst this
        exact .inl ((getD_isL hs (by rw [← hs]; exact pred_lt (h3 j hj))).1 (h3 j hj))
    · have := Eng.filter_lt (l := List.range c.ops.size) (p := fun i => !listed.getD i true) (q := fun i => !(listed.setIfInBounds e.d.i true).getD i true) (i := e.d.i) (by simpa using h1) (by unfold isL at h2; simpa using h2)
        (by
          have : isL (listed.setIfInBounds e.d.i true) e.d.i := (isL_set hms).2 (.inl rfl)
          unfold isL at this; simp only [this, Bool.not_true])
        (fun j hj => by
          simp only [Bool.not_eq_true'] at hj ⊢
          have h5 : ¬ isL (listed.setIfInBounds e.d.i true) j := by unfold isL; simp [hj]
          have h6 : ¬ isL listed j := fun h => h5 ((isL_set hms).2 (.inr h))
          unfold isL at h6; simpa using h6)
      omega
end
section
variable {P : Program}
theorem not_rep {n i : Nat} (h : i < n) : ¬ isL (Array.replicate n false) i := by
  unfold isL; simp [Array.getD_eq_getD_getElem?, h]
theorem stDr_ok (hmx : P.follows .mixedOrders = true) {m : Mac} (hm : MOK P m) {cc : Cc} {id : Nat} {ops : Array Oper} {s s' : St} {e : Ex} (h : stDr cc.M m (drawn (dops P ops 0 ops.toList)) s = some (e, s')) : s.h.next ≤ s'.h.next ∧
    ∀ ρ η a w r Q, RK ρ cc.rd r → SI P cc.M ρ s η a w → Fresh ρ s.h.next s'.h.next → EndQ P cc.M ρ η w s.h.next e s' Q → (Code.region id ops true).wpIn (wideR r) 0 P Q a w := by
  unfold stDr at h
  split at h
  · rename_i l hl
    obtain ⟨fr, h', h1, rfl, rfl⟩ := stEnd_some h
    obtain ⟨sl, sch⟩ := drawn_ok hl
    obtain ⟨T, t1, t2, t3, _⟩ := evDr_ok h1
    have evn : ∀ fr h i v h', evIn m.f m.y fr h i = some (v, h') → h.next ≤ h'.next := fun _ _ _ _ _ e => evIn_next hm.f hm.y e
    refine ⟨t1.next evn, fun ρ η a w r Q hr si hf hq => wpIn_region_any hmx ?_⟩
    let w0 : World := { w with drawn := w.drawn + 1 }
    have u0 : Upd [η] [η] w w0 := Upd.one ⟨Nat.le_refl _, rfl, rfl, rfl, Nat.le_succ _⟩ (fun _ _ _ => rfl) si.le (fun _ h => .inl h)
    let c : RC := ⟨P, ops, sl, cc.M, m.f, m.y, T, s.fr, s.h, fr, h', ρ, η, w0, a.defers⟩
    have ok : c.OK := ⟨hm.f, hm.y, by show Sched P ops sl (T.map pr); rw [t2]; exact sch, t1, hf⟩
    have hno : ∀ y ∈ c.T, ¬ isL (Array.replicate ops.size false) y.d.i := fun y hy => not_rep (preds_eq ok hy).2
    refine any_ok (c := c) ok (fun ρ' η' a' w' k1 k2 k3 k4 k5 k6 => ?_) ops.size _ a w0 (by simp [c]) (fun y hy hX => absurd hX (hno y hy)) ?_ ⟨[], T, s.h, ρ, η, ?_⟩
    · have u1 : Upd [η] [η'] w w' := Upd.comp u0 k2
      have k3 : Ext ρ ρ' s.h.next h'.next := k3
      exact hq ρ' η' a' w' ⟨k4, k6, by rw [show a'.defers = a.defers from k5]; exact si.mks.mono k3.1, k1, u1.own _ (by simp)⟩ u1 k3
    · refine Nat.le_trans (List.length_filter_le _ _) (by simp [c])
    · exact ⟨rfl, ⟨s.fr, t1⟩, Nat.le_refl _, (fun y hy => by cases hy), (fun y hy _ => hno y hy), si.hr, upd_refl (w := w0) si.le, (fun _ _ h => h), (fun n hn => .inl hn), (fun y hy _ _ hX => absurd hX (hno y hy)), (fun y hy _ _ _ _ _ _ hX => absurd hX (hno y hy)), (fun y hy hX => absurd hX (hno y hy)), (fun t _ v hv => si.fk t v hv), (fun y hy => by cases hy), t3, si.size, rfl⟩
  · cases h
theorem stC_ok (hmx : P.follows .mixedOrders = true) {m : Mac} (hm : MOK P m) : COK P (stC P m) := by
  intro cc cd s e s' h
  cases cd with
  | skip => cases h; exact ⟨Nat.le_refl _, fun ρ η a w r Q hr si hf hq => wpIn_skip (hq ρ η a w si (upd_refl si.le) Ext.refl)⟩
  | region id ops d =>
    cases d with
    | false => exact stReg_ok hm h
    | true => exact stDr_ok hmx hm h
  | seq x y => exact seq_ok hm h
  | cond x p q => exact cond_ok hm h
  | block id b => exact block_ok hm h
  | loop b =>
    obtain ⟨n1, n, g⟩ := hm.l _ _ _ _ _ (show m.l cc b s = some (e, s') from h)
    exact ⟨n1, fun ρ η a w r Q hr si hf hq => wpIn_loop_rounds n (g ρ η a w r Q hr si hf hq)⟩
  | exit id => cases h; exact ⟨Nat.le_refl _, fun ρ η a w r Q hr si hf hq => wpIn_exit (hq ρ η a w si (upd_refl si.le) Ext.refl)⟩
  | ret => cases h; exact ⟨Nat.le_refl _, fun ρ η a w r Q hr si hf hq => wpIn_ret (hq ρ η a w si (upd_refl si.le) Ext.refl)⟩
  | rangeFunc f ps asg body =>
    simp only [stC] at h
    split at h
    · rename_i d hd; exact range_ok hm hd h
    · cases h
  | _ => cases h
theorem mac_ok {orc : CallF} (ho : FOK P orc) (hP : ∀ (f : FuncId) (fn : Func), P.funcs[f]? = some fn → (fn.name == "runtime.NumGoroutine") = false) (hmx : P.follows .mixedOrders = true) : ∀ n, MOK P (mac P orc n)
  | 0 => ⟨(fun _ _ _ _ _ h => by cases h), (fun _ _ _ _ _ h => by cases h), (fun _ _ _ _ _ h => by cases h), (fun _ _ _ _ _ h => by cases h)⟩
  | n + 1 =>
    have ih := mac_ok ho hP hmx n
    ⟨stC_ok hmx ih, stF_ok ih ho hP, stY_ok ih, fun _ _ _ _ _ h => loop_ok ih h⟩
theorem noOrc_ok : FOK P noOrc := fun _ _ _ _ _ h => by cases h
theorem hr_empty : HR P (fun _ => none) ⟨0, .e⟩ (fun _ => none) := ⟨(fun i a h => by cases h), (fun b h => absurd rfl h), (fun i j b s e s' e' h => absurd rfl h)⟩
theorem closed_run {orc : CallF} {n : Nat} (hm : MOK P (mac P orc n)) {f : FuncId} {v : Value} {h' : AH} (h : (mac P orc n).f f [] ⟨0, .e⟩ = some (v, h')) (hv : flat v = true) (w : World) :
    (callFunc f #[]).run P w = .ok (.enter f #[]) w ∧ CallsIn Fence.wide 0 P f #[] w (fun e w' => e = .returned v ∧ w.heap.size ≤ w'.heap.size ∧ w'.os = w.os ∧ w'.output = w.output ∧ w'.tape = w.tape ∧ w.drawn ≤ w'.drawn ∧ ∀ b, b < w.heap.size → w'.heap[b]? = w.heap[b]?) := by
  obtain ⟨c1, c2⟩ := (hm.f _ _ _ _ _ h).2 (fun _ => none) (fun _ => none) w [] hr_empty (fun b o hb => by cases hb) (fun i _ _ => rfl) rfl
  refine ⟨c1, CallsIn.mono c2 ?_⟩
  rintro e w' ⟨u, rfl, ρ', η', k1, k2, k3, k4⟩
  rw [rn_flat hv] at k1
  cases k1
  exact ⟨rfl, k3.size.1, k3.size.2.1, k3.size.2.2.1, k3.size.2.2.2.1, k3.size.2.2.2.2, fun b hb => k3.keep b hb (fun σ hσ => by simp at hσ; subst hσ; rfl)⟩
theorem closed_spec {orc : CallF} {n : Nat} (hm : MOK P (mac P orc n)) {f : FuncId} {v : Value} {h' : AH} (h : (mac P orc n).f f [] ⟨0, .e⟩ = some (v, h')) (hv : flat v = true) : Eng.Spec P (.func (.func f) #[] #[]) [] [] [] (fun u H' => H' = [] ∧ u = v) := by
  intro N w _
  unfold CallsV
  obtain ⟨c1, c2⟩ := closed_run hm h hv w
  have hrun : ((do let d ← Deferred.ofValue (.func (.func f) #[] #[]) ([] : List Value).toArray; invoke d.target d.args : Sem Next).run P w) = .ok (.enter f #[]) w := by
    rw [← c1]
    simp [Deferred.ofValue, invoke]
  rw [hrun]
  refine CallsIn.mono c2 ?_
  rintro e w' ⟨rfl, k1, k2, k3, k4, k5, k6⟩
  exact ⟨v, rfl, [], ⟨rfl, rfl⟩, ⟨⟨k1, k2, k3, k4, k5⟩, fun b hb _ => k6 b hb, (fun ρ hρ => by cases hρ), .nil, (fun ρ hρ => by cases hρ)⟩⟩
def orcOf (f : FuncId) (v : Value) : CallF := fun g vs h => match vs with
  | [] => bif Nat.beq g f then some (v, h) else none
  | _ => none
theorem orcOf_ok {orc : CallF} {n : Nat} (hm : MOK P (mac P orc n)) {f : FuncId} {v : Value} {h' : AH} (h : (mac P orc n).f f [] ⟨0, .e⟩ = some (v, h')) (hv : flat v = true) : FOK P (orcOf f v) := by
  intro g vs h0 u h1 e
  unfold orcOf at e
  split at e
  · cases hb : Nat.beq g f with
    | false => rw [hb] at e; cases e
    | true =>
      rw [hb, cond_true] at e
      cases e
      have := Nat.eq_of_beq_eq_true hb
      subst this
      refine ⟨Nat.le_refl _, fun ρ η w us hr hw _ hu => ?_⟩
      cases hu
      obtain ⟨c1, c2⟩ := closed_run hm h hv w
      refine ⟨c1, CallsIn.mono c2 ?_⟩
      rintro e w' ⟨rfl, k1, k2, k3, k4, k5, k6⟩
      refine ⟨_, rfl, ρ, η, rn_flat hv, hr, Upd.one ⟨k1, k2, k3, k4, k5⟩ (fun b hb _ => k6 b hb) (fun b o hb => ?_) (fun b hb => .inl hb), Ext.refl⟩
      rw [k6 b (hw.lt (b := b) (by rw [hb]; simp))]
      exact hw b o hb
  · cases e
end
end Go.Ev
/- The rows' own example: the program's table of sums; the closed call that tries the example answers true. No conditions. -/
namespace Go.Proofs.YtijheemiknkleaaGreatDoor
open Go.Eng Go.Ev
set_option maxRecDepth 100000
set_option maxHeartbeats 4000000

def crcL : List Nat := [0, 4067132163, 3778769143, 324072436, 3348797215, 904991772, 648144872, 3570033899, 2329499855, 2024987596, 1809983544, 2575936315, 1296289744, 3207089363, 2893594407, 1578318884, 274646895, 3795141740, 4049975192, 51262619, 3619967088, 632279923, 922689671, 3298075524, 2592579488, 1760304291, 2075979607, 2312596564, 1562183871, 2943781820, 3156637768, 1313733451, 549293790, 3537243613, 3246849577, 871202090, 3878099393, 357341890, 102525238, 4101499445, 2858735121, 1477399826, 1264559846, 3107202533, 1845379342, 2677391885, 2361733625, 2125378298, 820201905, 3263744690, 3520608582, 598981189, 4151959214, 85089709, 373468761, 3827903834, 3124367742, 1213305469, 1526817161, 2842354314, 2107672161, 2412447074, 2627466902, 1861252501, 1098587580, 3004210879, 2688576843, 1378610760, 2262928035, 1955203488, 1742404180, 2511436119, 3416409459, 969524848, 714683780, 3639785095, 205050476, 4266873199, 3976438427, 526918040, 1361435347, 2739821008, 2954799652, 1114974503, 2529119692, 1691668175, 2005155131, 2247081528, 3690758684, 697762079, 986182379, 3366744552, 476452099, 3993867776, 4250756596, 255256311, 1640403810, 2477592673, 2164122517, 1922457750, 2791048317, 1412925310, 1197962378, 3037525897, 3944729517, 427051182, 170179418, 4165941337, 746937522, 3740196785, 3451792453, 1070968646, 1905808397, 2213795598, 2426610938, 1657317369, 3053634322, 1147748369, 1463399397, 2773627110, 4215344322, 153784257, 444234805, 3893493558, 1021025245, 3467647198, 3722505002, 797665321, 2197175160, 1889384571, 1674398607, 2443626636, 1164749927, 3070701412, 2757221520, 1446797203, 137323447, 4198817972, 3910406976, 461344835, 3484808360, 1037989803, 781091935, 3705997148, 2460548119, 1623424788, 1939049696, 2180517859, 1429367560, 2807687179, 3020495871, 1180866812, 410100952, 3927582683, 4182430767, 186734380, 3756733383, 763408580, 1053836080, 3434856499, 2722870694, 1344288421, 1131464017, 2971354706, 1708204729, 2545590714, 2229949006, 1988219213, 680717673, 3673779818, 3383336350, 1002577565, 4010310262, 493091189, 238226049, 4233660802, 2987750089, 1082061258, 1395524158, 2705686845, 1972364758, 2279892693, 2494862625, 1725896226, 952904198, 3399985413, 3656866545, 731699698, 4283874585, 222117402, 510512622, 3959836397, 3280807620, 837199303, 582374963, 3504198960, 68661723, 4135334616, 3844915500, 390545967, 1230274059, 3141532936, 2825850620, 1510247935, 2395924756, 2091215383, 1878366691, 2644384480, 3553878443, 565732008, 854102364, 3229815391, 340358836, 3861050807, 4117890627, 119113024, 1493875044, 2875275879, 3090270611, 1247431312, 2660249211, 1828433272, 2141937292, 2378227087, 3811616794, 291187481, 34330861, 4032846830, 615137029, 3603020806, 3314634738, 939183345, 1776939221, 2609017814, 2295496738, 2058945313, 2926798794, 1545135305, 1330124605, 3173225534, 4084100981, 17165430, 307568514, 3762199681, 888469610, 3332340585, 3587147933, 665062302, 2042050490, 2346497209, 2559330125, 1793573966, 3190661285, 1279665062, 1595330642, 2910671697]
def crcV : Value := .agg ⟨crcL.map fun n => .int .u32 (.ofNat n)⟩
def isV (v : Value) : Option (Value × AH) → Bool
 | some (u, _) => beV u v
 | none => false
theorem isV_ok {v : Value} {x : Option (Value × AH)} (h : isV v x = true) : ∃ h', x = some (v, h') := by
 cases x with
 | none => cases h
 | some p => obtain ⟨u, h'⟩ := p; exact ⟨h', by rw [beV_eq (show beV u v = true from h)]⟩
def noGo : List Func → Bool
 | [] => true
 | f :: l => !(f.name == "runtime.NumGoroutine") && noGo l
theorem noGo_ok : ∀ {l : List Func}, noGo l = true → ∀ f ∈ l, (f.name == "runtime.NumGoroutine") = false
 | [], _, f, hf => by cases hf
 | g :: l, h, f, hf => by
  have h : (!(g.name == "runtime.NumGoroutine") && noGo l) = true := h
  rw [Bool.and_eq_true] at h
  rcases List.mem_cons.1 hf with rfl | hf
  ·simpa using h.1
  ·exact noGo_ok h.2 f hf
theorem names_ok : ∀ (f : FuncId) (fn : Func), Tryz.prog.funcs[f]? = some fn → (fn.name == "runtime.NumGoroutine") = false := fun f fn h =>
 noGo_ok (l := Tryz.prog.funcs.toList) (by kernel_rfl) fn (by rw [Array.mem_toList_iff]; exact Array.mem_of_getElem? h)
theorem mixed_ok : Tryz.prog.follows .mixedOrders = true := by kernel_rfl
theorem crc_run : isV crcV ((mac Tryz.prog noOrc 400).f 176 [] ⟨0, .e⟩) = true := by kernel_rfl
theorem crc_orc : FOK Tryz.prog (orcOf 176 crcV) :=
 Exists.elim (isV_ok crc_run) (fun _ h => orcOf_ok (mac_ok noOrc_ok names_ok mixed_ok 400) h (by kernel_rfl))
theorem awake_run : isV (.bool true) ((mac Tryz.prog (orcOf 176 crcV) 3000).f 5 [] ⟨0, .e⟩) = true := by kernel_rfl
theorem awake_spec : Eng.Spec Tryz.prog (.func (.func 5) #[] #[]) [] [] [] (fun u H' => H' = [] ∧ u = .bool true) :=
 Exists.elim (isV_ok awake_run) (fun _ h => closed_spec (mac_ok crc_orc names_ok mixed_ok 3000) h rfl)
end Go.Proofs.YtijheemiknkleaaGreatDoor
/- The law on one more contact. -/
namespace Go.Proofs.YtijheemiknkleaaGreatDoor
open Go.Eng Go.Step
set_option maxRecDepth 100000
set_option maxHeartbeats 4000000

set_option maxHeartbeats 32000000 in
theorem more_law {ρ τ σ υ : PH} {pq pc pb ph : Option Addr} {kq kc kb kh : Nat} {qs : List Int} {cs : List Ct} {bs : List Bk} {hs : List Hd} (hT : TbAt ρ τ σ υ pq pc pb ph kq kc kb kh qs cs bs hs) (q : Rq) (x : Ct) :
  Ans Tryz.prog (fv 3) [.agg #[.slice pq qs.length kq, .slice pc cs.length kc, .slice pb bs.length kb, .slice ph hs.length kh], .agg #[int q.src, int q.dst, int q.size, int q.rdy, int q.dln, int q.pri, .bool q.cus], .agg #[int x.f, int x.t, int x.s, int x.e, int x.r, int x.g, int x.l]] [ρ, τ, σ, υ] (fun r => r = .bool true) := by
 have haw : Ans Tryz.prog (fv 5) [] [] (fun r => r = .bool true) := awake_spec
 have hfi := fine_spec (q := q) hT
 refine spec_in (cap := []) Tryz.func3 rfl rfl Tryz.ntmps3 rfl envZ (fun N β => ?_)
 refine AB ?_
 refine AA ?_
 refine BF (BC rfl) rfl rfl rfl ?_
 rintro _ _ ⟨b3, rfl, rfl⟩
 refine BF (BC rfl) rfl rfl rfl ?_
 rintro _ _ ⟨b4, rfl, rfl⟩
 refine BF (BC rfl) rfl rfl rfl ?_
 rintro _ _ ⟨b5, rfl, rfl⟩
 refine AU (ρ := sng b3 _) takeZ ?_
 refine AU (ρ := sng b4 _) takeZ ?_
 refine AU (ρ := sng b5 _) takeZ ?_
 have ct : RdN (sng b3 (.cells #[.slice pq qs.length kq, .slice pc cs.length kc, .slice pb bs.length kb, .slice ph hs.length kh] 29 (0, 0))) b3 0 [.slice pq qs.length kq, .slice pc cs.length kc, .slice pb bs.length kb, .slice ph hs.length kh] := rdN_sng (vs := [.slice pq qs.length kq, .slice pc cs.length kc, .slice pb bs.length kb, .slice ph hs.length kh])
 have ct2 : rdc (sng b3 (.cells #[.slice pq qs.length kq, .slice pc cs.length kc, .slice pb bs.length kb, .slice ph hs.length kh] 29 (0, 0))) b3 2 = some (.slice pb bs.length kb) := by rw [rdc_sng]; rfl
 have ct3 : rdc (sng b3 (.cells #[.slice pq qs.length kq, .slice pc cs.length kc, .slice pb bs.length kb, .slice ph hs.length kh] 29 (0, 0))) b3 3 = some (.slice ph hs.length kh) := by rw [rdc_sng]; rfl
 have ctp : RdP (sng b3 (.cells #[.slice pq qs.length kq, .slice pc cs.length kc, .slice pb bs.length kb, .slice ph hs.length kh] 29 (0, 0))) b3 0 [.slice pq qs.length kq, .slice pc cs.length kc] := rdP_sng (xs := [.slice pq qs.length kq, .slice pc cs.length kc, .slice pb bs.length kb, .slice ph hs.length kh]) rfl
 have cr : RdN (sng b4 (.cells #[int q.src, int q.dst, int q.size, int q.rdy, int q.dln, int q.pri, .bool q.cus] 31 (0, 0))) b4 0 [int q.src, int q.dst, int q.size, int q.rdy, int q.dln, int q.pri, .bool q.cus] := rdN_sng (vs := [int q.src, int q.dst, int q.size, int q.rdy, int q.dln, int q.pri, .bool q.cus])
 have cc : RdN (sng b5 (.cells #[int x.f, int x.t, int x.s, int x.e, int x.r, int x.g, int x.l] 33 (0, 0))) b5 0 [int x.f, int x.t, int x.s, int x.e, int x.r, int x.g, int x.l] := rdN_sng (vs := [int x.f, int x.t, int x.s, int x.e, int x.r, int x.g, int x.l])
 refine AD ?_
 refine AE ?_
 refine AB ?_
 refine AB ?_
 refine AA ?_
 refine AN ?_
 refine AN ?_
 refine A3 hfi rfl rfl rdZ rfl rfl ?_
 rintro _ ⟨b, rfl, hb⟩
 cases b with
 | false =>
  refine BZ ?_
  refine AE ?_
  refine AQ rfl ?_
  refine AB ?_
  refine AA ?_
  refine A3 haw rfl rfl rdZ rfl rfl ?_
  rintro _ rfl
  refine AD ?_
  refine AE ?_
  exact AI (res1 rfl rfl) rsubZ selZ ⟨rfl, rfl⟩
 | true =>
 obtain ⟨hK, hcl⟩ := hb rfl
 obtain ⟨hp, _, _⟩ := chkT_ok hK.t
 have hwi := with_spec ρ τ pq pc kq kc qs cs hT.hq hT.hc hT.hcap hT.lq hcl hp x
 refine BZ ?_
 refine AE ?_
 refine AM rfl ?_
 refine AL ?_
 refine AB ?_
 refine AA ?_
 refine AG ?_
 refine AN ?_
 refine AN ?_
 refine B6 hwi rfl rfl rdZ rfl rfl ?_
 rintro _ χ (⟨hz, pu, ku, rfl, hcap2, hcu⟩ | ⟨hz, rfl⟩)
 rotate_left
 ·generalize chkPl qs (cs ++ [x]) = e at hz
  refine AC ?_
  refine AX ?_
  refine AX ?_
  refine A4 ?_; rintro _ _ ⟨b, rfl, rfl⟩
  refine A2 ?_; rintro _ _ ⟨rfl, rfl⟩
  refine AD ?_
  refine AE ?_
  refine AB ?_
  refine AB ?_
  refine AA ?_
  refine AC ?_
  refine CR ?_
  refine AE ?_
  refine AQ rfl ?_
  refine AB ?_
  refine AA ?_
  revert b; intro b7
  refine A3 haw rfl rfl rdZ rfl rfl ?_
  rintro _ rfl
  refine AD ?_
  refine AE ?_
  exact AI (res1 rfl rfl) rsubZ selZ ⟨rfl, rfl⟩
 have hln : (cs ++ [x]).length = cs.length + 1 := by rw [List.length_append]; rfl
 have hT2 : TbAt ρ χ σ υ pq pu pb ph kq ku kb kh qs (cs ++ [x]) bs hs := ⟨hT.hq, hcu, hcap2, hT.lq, by omega, hT.hb, hT.lb, hT.hh, hT.lh⟩
 have hK2 := tok_more hK hcl hz
 have hg2 := grOf_ok hK2
 have ha2 := gaps_asc hK2
 have hE := ext_more qs cs bs hs q x
 refine AU (ρ := χ) takeZ ?_
 have har := srchArr_spec hT hK
 have har2 := srchArr_spec hT2 hK2
 have hmk := makeBar_spec hT2 hK2
 have hv1 := fun {lam : PH} {pl : Option Addr} {cl : Nat} {L : List Lb} (hv : SlE encL 4 lam (.slice pl L.length cl) L) hl hV => verify_spec hT hK hv hl hV
 have hv2 := fun {lam : PH} {pl : Option Addr} {cl : Nat} {L : List Lb} (hv : SlE encL 4 lam (.slice pl L.length cl) L) hl hV => verify_spec hT2 hK2 hv hl hV
 generalize grOf qs cs bs hs q = G at har hE hv1
 generalize grOf qs (cs ++ [x]) bs hs q = G' at har2 hE hmk hv2 hg2 ha2
 generalize (cs ++ [x]).length = nc2 at *
 refine AC ?_
 refine AX ?_
 refine AX ?_
 refine A4 ?_; rintro _ _ ⟨b, rfl, rfl⟩
 refine A2 ?_; rintro _ _ ⟨rfl, rfl⟩
 refine AD ?_
 refine AE ?_
 refine AB ?_
 refine AB ?_
 refine AA ?_
 refine AC ?_
 refine BG ?_
 refine AE ?_
 refine AM rfl ?_
 refine AL ?_
 refine AB ?_
 refine AA ?_
 refine AN ?_
 refine AG ?_
 refine AF ?_
 refine AG ?_
 refine AF ?_
 refine CD (C6 (out := [.slice pq qs.length kq, .slice pu nc2 ku, .slice pb bs.length kb, .slice ph hs.length kh]) rfl rfl rfl rfl rfl) rfl rfl rfl ?_
 refine A4 ?_; rintro _ _ ⟨b, rfl, rfl⟩
 refine A2 ?_; rintro _ _ ⟨rfl, rfl⟩
 refine AE ?_
 refine AB ?_
 refine AA ?_
 refine AN ?_
 refine AN ?_
 revert b; intro b9
 revert b; intro b7
 refine AU (ρ := sng b9 _) takeZ ?_
 have cm : RdN (sng b9 (.cells #[.slice pq qs.length kq, .slice pu nc2 ku, .slice pb bs.length kb, .slice ph hs.length kh] 29 (0, 0))) b9 0 [.slice pq qs.length kq, .slice pu nc2 ku, .slice pb bs.length kb, .slice ph hs.length kh] := rdN_sng (vs := [.slice pq qs.length kq, .slice pu nc2 ku, .slice pb bs.length kb, .slice ph hs.length kh])
 refine A3 har rfl rfl rdZ rfl rfl ?_
 rintro _ ⟨L, hL, hcase⟩
 rcases hcase with ⟨a, ha, rfl⟩ | ⟨ha, rfl⟩
 ·refine AC ?_
  refine AX ?_
  refine AX ?_
  refine AD ?_
  refine AD ?_
  refine AE ?_
  refine AB ?_
  refine AA ?_
  refine AN ?_
  refine AN ?_
  refine A3 har2 rfl rfl rdZ rfl rfl ?_
  rintro _ ⟨L', hL', ⟨a', ha', rfl⟩ | ⟨ha', rfl⟩⟩
  ·obtain ⟨a2, e1, hle⟩ := arr_more hg2 ha2 hE hL hL' ha
   rw [ha'] at e1
   obtain rfl : a' = a2 := by simpa using e1
   refine AC ?_
   refine AX ?_
   refine AX ?_
   refine AD ?_
   refine AD ?_
   refine AE ?_
   refine AB ?_
   refine AB ?_
   refine AA ?_
   refine AC ?_
   refine CB ?_
   refine AE ?_
   refine AQ rfl ?_
   refine AB ?_
   refine AA ?_
   refine AC ?_
   refine CB ?_
   refine AC ?_
   refine AC ?_
   refine AC ?_
   refine C3 ?_
   refine AT ?_
   refine AC ?_
   refine A3 haw rfl rfl rdZ rfl rfl ?_
   rintro _ rfl
   refine AT ?_
   refine AD ?_
   refine AE ?_
   exact AI (res1 rfl rfl) rsubZ selZ ⟨rfl, rfl⟩
  ·exfalso
   obtain ⟨a2, e1, hle⟩ := arr_more hg2 ha2 hE hL hL' ha
   rw [ha'] at e1
   cases e1
 ·refine AC ?_
  refine AX ?_
  refine AX ?_
  refine AD ?_
  refine AD ?_
  refine AE ?_
  refine AB ?_
  refine AA ?_
  refine AN ?_
  refine AN ?_
  refine A3 har2 rfl rfl rdZ rfl rfl ?_
  rintro _ ⟨L', hL', ⟨a', ha', rfl⟩ | ⟨ha', rfl⟩⟩
  ·refine AC ?_
   refine AX ?_
   refine AX ?_
   refine AD ?_
   refine AD ?_
   refine AE ?_
   refine AB ?_
   refine AB ?_
   refine AA ?_
   refine AC ?_
   refine B4 ?_
   refine AE ?_
   refine AM rfl ?_
   refine AL ?_
   refine AB ?_
   refine AB ?_
   refine AA ?_
   refine AC ?_
   refine CB ?_
   refine AE ?_
   refine AQ rfl ?_
   refine AB ?_
   refine AA ?_
   refine AC ?_
   refine CB ?_
   refine AC ?_
   refine A3 haw rfl rfl rdZ rfl rfl ?_
   rintro _ rfl
   refine AT ?_
   refine AD ?_
   refine AE ?_
   exact AI (res1 rfl rfl) rsubZ selZ ⟨rfl, rfl⟩
  ·refine AC ?_
   refine AX ?_
   refine AX ?_
   refine AD ?_
   refine AD ?_
   refine AE ?_
   refine AB ?_
   refine AB ?_
   refine AA ?_
   refine AC ?_
   refine B4 ?_
   refine AE ?_
   refine AM rfl ?_
   refine AL ?_
   refine AB ?_
   refine AB ?_
   refine AA ?_
   refine AC ?_
   refine B4 ?_
   refine AE ?_
   refine AM rfl ?_
   refine AL ?_
   refine AB ?_
   refine AA ?_
   refine AN ?_
   refine AN ?_
   refine B6 hmk rfl rfl rdZ rfl rfl ?_
   rintro _ lam (⟨L1, a1, hL1, h1, rfl⟩ | ⟨L1, L2, u, hL1, h1, hL2, rfl, hO⟩)
   ·exfalso
    obtain ⟨a2, e1, hle⟩ := arr_more hg2 ha2 (Ext.refl G') hL1 hL' h1
    rw [ha'] at e1
    cases e1
   ·obtain ⟨pl, cl, rfl⟩ := hO.form
    have hSl : SlE encL 4 lam (.slice pl L2.length cl) L2 := hO.at
    have hll := hL2.len
    have w1 := hv1 hSl (by omega) (ver_more hg2 ha2 hE hL' ha' hL2)
    have w2 := hv2 hSl (by omega) (ver_more hg2 ha2 (Ext.refl G') hL' ha' hL2)
    refine AU (ρ := lam) takeZ ?_
    refine AC ?_
    refine AX ?_
    refine AX ?_
    refine AD ?_
    refine AD ?_
    refine AE ?_
    refine AB ?_
    refine AA ?_
    refine AC ?_
    refine CB ?_
    refine AC ?_
    refine AN ?_
    refine AN ?_
    refine AC ?_
    refine A3 w2 rfl rfl rdZ rfl rfl ?_
    rintro _ rfl
    refine CB ?_
    refine AT ?_
    refine AC ?_
    refine AN ?_
    refine AN ?_
    refine AC ?_
    refine A3 w1 rfl rfl rdZ rfl rfl ?_
    rintro _ rfl
    refine CB ?_
    refine AT ?_
    refine AC ?_
    refine A3 haw rfl rfl rdZ rfl rfl ?_
    rintro _ rfl
    refine AT ?_
    refine AD ?_
    refine AE ?_
    exact AI (res1 rfl rfl) rsubZ selZ ⟨rfl, rfl⟩
end Go.Proofs.YtijheemiknkleaaGreatDoor
/- The row and its card: one more contact, for every input. -/
namespace Go.Proofs.YtijheemiknkleaaGreatDoor
open Go.Eng Go.Step
set_option maxRecDepth 100000
set_option maxHeartbeats 4000000
open Go.ChangeShapes Go.WideShapes Go.ChangeAt Go.RowKit

theorem request_of {W : World} {r : Reach} {base : Nat} {v0 : Value} (hv : Value.okWide Tryz.prog W r base 31 v0) (h : RdT Tryz.prog W 31 v0.cells.toList) : ∃ q : Rq, v0 = .agg #[int q.src, int q.dst, int q.size, int q.rdy, int q.dln, int q.pri, .bool q.cus] := by
 obtain ⟨cs, rfl⟩ := okWide_agg Tryz.underlying31 hv
 obtain ⟨h1, _⟩ := h.struct Tryz.underlying31
 have hc : Tryz.prog.cellsOf 31 = 7 := by kernel_rfl
 rw [hc] at h1
 obtain ⟨x⟩ := cs
 match x, h1 with
 | [c0, c1, c2, c3, c4, c5, c6], _ =>
  have k : Tryz.prog.cellsOf 3 = 1 := by kernel_rfl
  have kb : Tryz.prog.cellsOf 4 = 1 := by kernel_rfl
  obtain ⟨x0, e0, _⟩ := (h.fld1 Tryz.underlying31 0 rfl rfl rfl k rfl).i64 Tryz.underlying3
  obtain ⟨x1, e1, _⟩ := (h.fld1 Tryz.underlying31 1 rfl rfl rfl k rfl).i64 Tryz.underlying3
  obtain ⟨x2, e2, _⟩ := (h.fld1 Tryz.underlying31 2 rfl rfl rfl k rfl).i64 Tryz.underlying3
  obtain ⟨x3, e3, _⟩ := (h.fld1 Tryz.underlying31 3 rfl rfl rfl k rfl).i64 Tryz.underlying3
  obtain ⟨x4, e4, _⟩ := (h.fld1 Tryz.underlying31 4 rfl rfl rfl k rfl).i64 Tryz.underlying3
  obtain ⟨x5, e5, _⟩ := (h.fld1 Tryz.underlying31 5 rfl rfl rfl k rfl).i64 Tryz.underlying3
  obtain ⟨x6, e6⟩ := (h.fld1 Tryz.underlying31 6 rfl rfl rfl kb rfl).bool Tryz.underlying4
  simp at e0 e1 e2 e3 e4 e5 e6
  subst e0 e1 e2 e3 e4 e5 e6
  exact ⟨⟨x0, x1, x2, x3, x4, x5, x6⟩, rfl⟩
theorem contact_of {W : World} {r : Reach} {base : Nat} {v0 : Value} (hv : Value.okWide Tryz.prog W r base 33 v0) (h : RdT Tryz.prog W 33 v0.cells.toList) : ∃ x : Ct, v0 = .agg #[int x.f, int x.t, int x.s, int x.e, int x.r, int x.g, int x.l] := by
 obtain ⟨cs, rfl⟩ := okWide_agg Tryz.underlying33 hv
 obtain ⟨h1, _⟩ := h.struct Tryz.underlying33
 have hc : Tryz.prog.cellsOf 33 = 7 := by kernel_rfl
 rw [hc] at h1
 obtain ⟨x⟩ := cs
 match x, h1 with
 | [c0, c1, c2, c3, c4, c5, c6], _ =>
  have k : Tryz.prog.cellsOf 3 = 1 := by kernel_rfl
  obtain ⟨x0, e0, _⟩ := (h.fld1 Tryz.underlying33 0 rfl rfl rfl k rfl).i64 Tryz.underlying3
  obtain ⟨x1, e1, _⟩ := (h.fld1 Tryz.underlying33 1 rfl rfl rfl k rfl).i64 Tryz.underlying3
  obtain ⟨x2, e2, _⟩ := (h.fld1 Tryz.underlying33 2 rfl rfl rfl k rfl).i64 Tryz.underlying3
  obtain ⟨x3, e3, _⟩ := (h.fld1 Tryz.underlying33 3 rfl rfl rfl k rfl).i64 Tryz.underlying3
  obtain ⟨x4, e4, _⟩ := (h.fld1 Tryz.underlying33 4 rfl rfl rfl k rfl).i64 Tryz.underlying3
  obtain ⟨x5, e5, _⟩ := (h.fld1 Tryz.underlying33 5 rfl rfl rfl k rfl).i64 Tryz.underlying3
  obtain ⟨x6, e6, _⟩ := (h.fld1 Tryz.underlying33 6 rfl rfl rfl k rfl).i64 Tryz.underlying3
  simp at e0 e1 e2 e3 e4 e5 e6
  subst e0 e1 e2 e3 e4 e5 e6
  exact ⟨⟨x0, x1, x2, x3, x4, x5, x6⟩, rfl⟩
set_option maxRecDepth 100000 in
theorem topMoreContacts_lifted (os : Os) (started : os.Started) (H : Type) (enc : TypeId × Value → H) :
  ReturnsInHanded {} Tryz.checked os 3 .any (fun w args => (Rows.topMoreContactsSpec.pre enc Tryz.prog Tryz.f3 [] false w args ∧ laidMetH Tryz.prog Rows.topMoreContactsRow.laid w) ∧ sizedMet enc Tryz.prog Tryz.f3 (OpenSpec.ofChange Rows.topMoreContactsSpec) false w args)
   (Rows.topMoreContactsSpec.post enc Tryz.prog Tryz.f3 false true false false) := by
 refine returnsInHanded_of_change_and (C := Tryz.checked) (X := fun w _ => laidMetH Tryz.prog Rows.topMoreContactsRow.laid w) (fun _ _ _ hh h => h.of_heap hh) Tryz.own started (by kernel_rfl) Tryz.func3
  (ChangeSpec.witness_shaped (enc := enc) (C := Tryz.checked) (os := os) (X := fun w _ => laidMetH Tryz.prog Rows.topMoreContactsRow.laid w) false (World.laidAll Tryz.prog os Rows.topMoreContactsRow.laid) #[.agg #[.slice none 0 0, .slice none 0 0, .slice none 0 0, .slice none 0 0], .agg #[.int .i64 0, .int .i64 0, .int .i64 0, .int .i64 0, .int .i64 0, .int .i64 0, .bool false], .agg #[.int .i64 0, .int .i64 0, .int .i64 0, .int .i64 0, .int .i64 0, .int .i64 0, .int .i64 0]] 8 (World.laidAll_os _ _ _)
   (World.shaped_of_ZipB (by kernel_rfl) (by kernel_rfl)) (by kernel_rfl) (by kernel_rfl) (by kernel_rfl)
   (by rw [MakeChecks.laidMetH_plain _ _ _ (by kernel_rfl)]; exact laidMet_laidAll _ (by kernel_rfl) (by kernel_rfl))) ?_
 intro W base args ds gs before hval0 hW _ _ _ _
 have hval : ∀ (j : Nat) t v, Tryz.f3.params[j]? = some t → args[j]? = some v → Value.okWide Tryz.prog W .any base t v := hval0
 have hW' := hW
 obtain ⟨p, q, hA0, hV, rfl, hfz, hnd⟩ := hW
 have hA : DataW.TrodAll enc Tryz.prog W 0 (fun _ => true) true Tryz.f3.params.toList args.toList ds p := hA0
 rw [Tryz.params3] at hA hval
 obtain ⟨v0, vs0, d0, ds0, p0, q0, hargs, rfl, rfl, h0, r0⟩ := trodAll_cons hA
 obtain ⟨v1, vs1, d1, ds1, p1, q1, rfl, rfl, rfl, h1, r1⟩ := trodAll_cons r0
 obtain ⟨v2, vs2, d2, ds2, p2, q2, rfl, rfl, rfl, h2, r2⟩ := trodAll_cons r1
 obtain ⟨rfl, rfl, rfl⟩ := trodAll_nil r2
 obtain rfl : args = #[v0, v1, v2] := by cases args; simp_all
 obtain ⟨rfl, rfl⟩ := trodVars_none hV
 have lt0 : ∀ x ∈ p0, x.block < W.heap.size := by obtain ⟨m, hm⟩ := h0; exact DataW.trod_lt m _ _ _ hm
 have lt1 : ∀ x ∈ p1, x.block < W.heap.size := by obtain ⟨m, hm⟩ := h1; exact DataW.trod_lt m _ _ _ hm
 have lt2 : ∀ x ∈ p2, x.block < W.heap.size := by obtain ⟨m, hm⟩ := h2; exact DataW.trod_lt m _ _ _ hm
 have hlaw : Ans Tryz.prog (fv 3) [v0, v1, v2] [heapPH W] (fun v => v = .bool true) := by
  obtain ⟨pq, pc, pb, ph, kq, kc, kb, kh, qs, cs, bs, hs, rfl, hT⟩ := tables_of (hval 0 _ v0 rfl rfl) (RdT.of h0)
  obtain ⟨rq, rfl⟩ := request_of (hval 1 _ v1 rfl rfl) (RdT.of h1)
  obtain ⟨x, rfl⟩ := contact_of (hval 2 _ v2 rfl rfl) (RdT.of h2)
  exact (more_law hT rq x).rsub (fun _ h => by simpa using h)
 refine (law_calls Tryz.func3 rfl rfl hlaw).mono fun e W' ⟨he, bel⟩ => ?_
 subst he
 exact ⟨_, rfl, _, _, _, [], _, [], hW', trodAll_mk1 (shut_bool Tryz.underlying4 _), (trodAll_cons_mk (Below.trod Tryz.laidOut (by kernel_rfl) (of_decide_eq_true (by kernel_rfl)) h0 bel lt0) (trodAll_cons_mk (Below.trod Tryz.laidOut (by kernel_rfl) (of_decide_eq_true (by kernel_rfl)) h1 bel lt1) (trodAll_cons_mk (Below.trod Tryz.laidOut (by kernel_rfl) (of_decide_eq_true (by kernel_rfl)) h2 bel lt2) trodAll_mk0))), rfl, bel.frame _, fun h => by cases h⟩
end Go.Proofs.YtijheemiknkleaaGreatDoor
/- The card: one more contact, for every input. -/
namespace Go.Proofs.YtijheemiknkleaaGreatDoor
open Go.Eng Go.Step
set_option maxRecDepth 100000
set_option maxHeartbeats 4000000
open Go.ChangeShapes Go.WideShapes Go.ChangeAt Go.RowKit

theorem more_inPlace : Rows.topMoreContactsRow.inPlace = Tryz.prog.inPlace 3 := by kernel_rfl
theorem more_unfollowed : Tryz.prog.unfollowed 3 = true := by kernel_rfl
theorem more_recurses : Tryz.prog.recurses 3 = true := by kernel_rfl
theorem more_named : Rows.topMoreContactsRow.named = Tryz.prog.varsNamed 3 := by kernel_rfl
theorem more_func : Tryz.prog.funcNamed "mailboat/mailboattop.TopMoreContacts" = some 3 := by kernel_rfl
theorem more_joined : joinedFacts Tryz.prog 3 Tryz.f3 Rows.topMoreContactsSpec Rows.topMoreContactsRow = true := by
 unfold joinedFacts
 rw [← more_inPlace, more_unfollowed, more_recurses, ← more_named]
 kernel_rfl
theorem topMoreContacts_holds : Rows.TopMoreContactsSaid :=
 OpenClaim.holds_of_wide 3 Tryz.f3 rfl rfl rfl rfl rfl rfl rfl ⟨rfl, rfl, rfl, rfl, rfl⟩ rfl rfl rfl rfl rfl more_func Tryz.func3 more_joined
  (of_decide_eq_true (by kernel_rfl)) (by unfold Func.isWrapper; first | (rw [if_pos (by decide +kernel)]; kernel_rfl) | (rw [if_neg (by decide +kernel)]; exact ⟨rfl, rfl⟩))
  (fun os started H enc _ => topMoreContacts_lifted os started H enc)
theorem topMoreContactsCard_holds : Rows.TopMoreContactsCardSaid :=
 Claim7.holds_tied_plain_at .later [] [.data, .pinned] true (true, "0ae5a82850d660a5dfe4f65ca92727cbc591d81053d155bc1f566b270b5e2602") false topMoreContacts_holds (fun _ h => by cases h) (by as_aux_lemma => kernel_rfl) (fun _ h => by cases h) topMoreContacts_row_tie rfl ⟨rfl, rfl⟩ (by as_aux_lemma => kernel_rfl) rfl
  (fun f fn hf hfn => by
   obtain rfl : f = 3 := Option.some.inj (more_func.symm.trans hf) |>.symm
   obtain rfl : fn = Tryz.f3 := (Option.some.inj (Tryz.func3.symm.trans hfn)).symm
   exact ⟨by as_aux_lemma => kernel_rfl, fun j t ht => by
    rw [Tryz.params3] at ht
    have hm : t ∈ [29, 31, 33] := by simpa using Array.mem_of_getElem? ht
    have hall : ([29, 31, 33].all fun u => !Tryz.prog.wantsStandIn u) = true := by kernel_rfl
    exact (show Tryz.prog.wantsStandIn t = false by simpa using List.all_eq_true.1 hall t hm)⟩)
  (by as_aux_lemma => kernel_rfl)
end Go.Proofs.YtijheemiknkleaaGreatDoor
