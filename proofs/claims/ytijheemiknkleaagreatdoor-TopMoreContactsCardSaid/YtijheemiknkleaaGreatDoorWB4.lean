/- Texts of this proof, one after the other; no conditions. -/
import Derived.Lib.AppendZerosOnto
import Derived.Lib.Overlaps
import Derived.Test.YtijheemiknkleaaGreatDoorWB3
import Derived.Test.YtijheemiknkleaaGreatDoorWB2
set_option linter.all false
/- The greatest value; what the reference says is stored. -/
namespace Go.Proofs.YtijheemiknkleaaGreatDoor
open Go.Eng Go.Step
set_option maxRecDepth 100000
set_option maxHeartbeats 4000000

theorem lvRow {ρ : PH} {p : Option Addr} {l : List Lv} (h : RowsE encV 2 ρ p l) {i : Nat} {x : Lv} (hx : l[i]? = some x) :
  ∃ b o, p = some ⟨b, o, none⟩ ∧ RdN ρ b (o + i * 2) [int x.a, int x.v] ∧ rdc ρ b (o + i * 2) = some (int x.a) ∧ rdc ρ b (o + i * 2 + 1) = some (int x.v) := by
 obtain ⟨b, o, e, hr⟩ := h i x hx
 exact ⟨b, o, e, hr, hr.get0, hr.get (j := 1) rfl⟩
theorem most_spec (ρ : PH) (v : Value) (f : List Lv) (hv : LvAt ρ v f) (hl : f.length ≤ 9223372036854775807) : Ans Tryz.prog (fv 133) [v] [ρ] (fun r => r = int (mostL f)) := by
 obtain ⟨q, c, rfl, hr⟩ := hv.val encV_len
 refine spec_in (cap := []) Tryz.func133 rfl rfl Tryz.ntmps133 rfl envZ (fun N β => ?_)
 refine AB ?_
 refine AA ?_
 refine AD ?_
 refine AE ?_
 refine AB ?_
 refine AA ?_
 refine AD ?_
 refine AE ?_
 refine AB ?_
 refine AB ?_
 refine AA ?_
 refine AC ?_
 refine AY ?_
 refine AC ?_
 refine AE ?_
 refine AV ?_
 refine BM [6, 7] (0 : Nat) (fun k => k ≤ f.length) (fun k => [(8, int k), (3, int (mostL (f.take k)))]) (fun _ => []) (fun k => f.length - k) pickZ (by omega) covZ selZ ?_
 intro k hk
 by_cases hlt : k < f.length
 ·have hx := List.getElem?_eq_getElem hlt
  obtain ⟨b1, o1, rfl, hrd, _, _⟩ := lvRow hr hx
  have hm := mostL_take hx
  generalize f[k] = x at hrd hm
  refine AB ?_
  refine AA ?_
  refine BI ?_
  refine AE ?_
  refine AB ?_
  refine AQ rfl ?_
  refine AL ?_
  refine AB ?_
  refine AV ?_
  refine AB ?_
  refine AA ?_
  refine A9 ?_
  refine AN ?_
  refine A4 ?_; rintro _ _ ⟨b, rfl, rfl⟩
  refine A2 ?_; rintro _ _ ⟨rfl, rfl⟩
  refine AE ?_
  refine AA ?_
  refine AC ?_
  refine AG ?_
  refine AF ?_
  refine DB ?_
  refine AD ?_
  refine AE ?_
  refine A8 ?_
  refine AA ?_
  refine BD ?_
  refine AC ?_
  refine AE ?_
  refine A5 (k + 1) (by omega) (by omega) ?_ selZ
  rw [hm]
  exact covZ
 ·have hke : k = f.length := by omega
  subst hke
  rw [List.take_length]
  refine AB ?_
  refine AA ?_
  refine AZ ?_
  refine AE ?_
  refine AB ?_
  refine AM rfl ?_
  refine BE rfl ?_
  refine AB ?_
  refine AA ?_
  refine AC ?_
  refine AD ?_
  refine AE ?_
  exact AI (res1 rfl rfl) rsubZ selZ ⟨rfl, rfl⟩
theorem hdRow5 {ρ : PH} {p : Option Addr} {l : List Hd} (h : RowsE encH 5 ρ p l) {i : Nat} {x : Hd} (hx : l[i]? = some x) :
  ∃ b o, p = some ⟨b, o, none⟩ ∧ RdN ρ b (o + i * 5) [int x.n, int x.a, int x.b, int x.s, int x.k] ∧ rdc ρ b (o + i * 5) = some (int x.n) ∧ rdc ρ b (o + i * 5 + 1) = some (int x.a) ∧ rdc ρ b (o + i * 5 + 2) = some (int x.b) ∧ rdc ρ b (o + i * 5 + 3) = some (int x.s) ∧ rdc ρ b (o + i * 5 + 4) = some (int x.k) := by
 obtain ⟨b, o, e, hr⟩ := h i x hx
 exact ⟨b, o, e, hr, hr.get0, hr.get (j := 1) rfl, hr.get (j := 2) rfl, hr.get (j := 3) rfl, hr.get (j := 4) rfl⟩
theorem stored_spec (ρ : PH) (v : Value) (l : List Hd) (n t : Int) (nq : Nat) (hv : HdAt ρ v l) (hok : ∀ h ∈ l, okHd nq h) (hl : l.length ≤ 600) : Ans Tryz.prog (fv 113) [v, int n, int t] [ρ] (fun r => r = int (Step.stored l n t)) := by
 obtain ⟨q, c, rfl, hr⟩ := hv.val encH_len
 refine spec_in (cap := []) Tryz.func113 rfl rfl Tryz.ntmps113 rfl envZ (fun N β => ?_)
 refine AB ?_
 refine AA ?_
 refine AD ?_
 refine AE ?_
 refine AB ?_
 refine AA ?_
 refine AD ?_
 refine AE ?_
 refine AB ?_
 refine AB ?_
 refine AA ?_
 refine AD ?_
 refine AE ?_
 refine AV ?_
 refine BM [0, 1, 2] (0 : Nat) (fun k => k ≤ l.length) (fun k => [(8, int k), (7, int (Step.stored (l.take k) n t))]) (fun _ => []) (fun k => l.length - k) pickZ (by omega) covZ selZ ?_
 intro k hk
 by_cases hlt : k < l.length
 ·have hx := List.getElem?_eq_getElem hlt
  have hh := (hok _ (List.getElem_mem hlt)).2.2.1
  obtain ⟨b1, o1, rfl, _, g0, g1, g2, g3, _⟩ := hdRow5 hr hx
  have hm := stored_snoc n t l[k] (l.take k)
  rw [← List.take_succ_eq_append_getElem hlt] at hm
  have hb := stored_bd (n := n) (t := t) (l := l.take k) (fun h hm => hok h (List.mem_of_mem_take hm))
  rw [List.length_take, Nat.min_eq_left hk] at hb
  generalize l[k] = h at g0 g1 g2 g3 hm hh
  generalize Step.stored (l.take k) n t = s at hm hb
  by_cases c1 : h.n = n
  ·by_cases c2 : h.a ≤ t
   ·by_cases c3 : t < h.b
    ·rw [if_pos ⟨c1, c2, c3⟩] at hm
     refine AB ?_
     refine AB ?_
     refine AA ?_
     refine AC ?_
     refine AC ?_
     refine AY ?_
     refine BI ?_
     refine AE ?_
     refine AQ rfl ?_
     refine AL ?_
     refine AB ?_
     refine AV ?_
     refine AB ?_
     refine AA ?_
     refine AC ?_
     refine AC ?_
     refine A9 ?_
     refine DN ?_
     refine AF ?_
     refine AC ?_
     refine CB ?_
     refine AC ?_
     refine AC ?_
     refine AC ?_
     refine A9 ?_
     refine CO ?_
     refine AF ?_
     refine AC ?_
     refine C3 ?_
     refine AT ?_
     refine AC ?_
     refine AC ?_
     refine AC ?_
     refine AC ?_
     refine A9 ?_
     refine CO ?_
     refine AF ?_
     refine BI ?_
     refine AT ?_
     refine AE ?_
     refine AQ rfl ?_
     refine AA ?_
     refine AC ?_
     refine AC ?_
     refine AC ?_
     refine A9 ?_
     refine CO ?_
     refine AF ?_
     refine CS ?_
     refine AD ?_
     refine AE ?_
     refine A8 ?_
     refine AA ?_
     refine AC ?_
     refine BD ?_
     refine AD ?_
     refine AE ?_
     refine A5 (k + 1) (by omega) (by omega) ?_ selZ
     rw [hm]
     exact covZ
    ·rw [if_neg (by omega), Int.add_zero] at hm
     refine AB ?_
     refine AB ?_
     refine AA ?_
     refine AC ?_
     refine AC ?_
     refine AY ?_
     refine BI ?_
     refine AE ?_
     refine AQ rfl ?_
     refine AL ?_
     refine AB ?_
     refine AV ?_
     refine AB ?_
     refine AA ?_
     refine AC ?_
     refine AC ?_
     refine A9 ?_
     refine DN ?_
     refine AF ?_
     refine AC ?_
     refine CB ?_
     refine AC ?_
     refine AC ?_
     refine AC ?_
     refine A9 ?_
     refine CO ?_
     refine AF ?_
     refine AC ?_
     refine C3 ?_
     refine AT ?_
     refine AC ?_
     refine AC ?_
     refine AC ?_
     refine AC ?_
     refine A9 ?_
     refine CO ?_
     refine AF ?_
     refine AZ ?_
     refine AT ?_
     refine AE ?_
     refine AM rfl ?_
     refine AL ?_
     refine A8 ?_
     refine AA ?_
     refine AC ?_
     refine BD ?_
     refine AD ?_
     refine AE ?_
     refine A5 (k + 1) (by omega) (by omega) ?_ selZ
     rw [hm]
     exact covZ
   ·rw [if_neg (by omega), Int.add_zero] at hm
    refine AB ?_
    refine AB ?_
    refine AA ?_
    refine AC ?_
    refine AC ?_
    refine AY ?_
    refine BI ?_
    refine AE ?_
    refine AQ rfl ?_
    refine AL ?_
    refine AB ?_
    refine AV ?_
    refine AB ?_
    refine AA ?_
    refine AC ?_
    refine AC ?_
    refine A9 ?_
    refine DN ?_
    refine AF ?_
    refine AC ?_
    refine CB ?_
    refine AC ?_
    refine AC ?_
    refine AC ?_
    refine A9 ?_
    refine CO ?_
    refine AF ?_
    refine AC ?_
    refine C4 ?_
    refine AT ?_
    refine AC ?_
    refine AJ rfl rfl rfl ?_
    refine AJ rfl rfl rfl ?_
    refine AJ rfl rfl rfl ?_
    refine AJ rfl rfl rfl ?_
    refine AJ rfl rfl rfl ?_
    refine AJ rfl rfl rfl ?_
    refine AJ rfl rfl rfl ?_
    refine AK ?_
    refine AE ?_
    refine AM rfl ?_
    refine AL ?_
    refine A8 ?_
    refine AA ?_
    refine AC ?_
    refine BD ?_
    refine AD ?_
    refine AE ?_
    refine A5 (k + 1) (by omega) (by omega) ?_ selZ
    rw [hm]
    exact covZ
  ·rw [if_neg (by omega), Int.add_zero] at hm
   refine AB ?_
   refine AB ?_
   refine AA ?_
   refine AC ?_
   refine AC ?_
   refine AY ?_
   refine BI ?_
   refine AE ?_
   refine AQ rfl ?_
   refine AL ?_
   refine AB ?_
   refine AV ?_
   refine AB ?_
   refine AA ?_
   refine AC ?_
   refine AC ?_
   refine A9 ?_
   refine DN ?_
   refine AF ?_
   refine AC ?_
   refine B4 ?_
   refine AC ?_
   refine AJ rfl rfl rfl ?_
   refine AJ rfl rfl rfl ?_
   refine AJ rfl rfl rfl ?_
   refine AJ rfl rfl rfl ?_
   refine AJ rfl rfl rfl ?_
   refine AJ rfl rfl rfl ?_
   refine AJ rfl rfl rfl ?_
   refine AK ?_
   refine AC ?_
   refine AJ rfl rfl rfl ?_
   refine AJ rfl rfl rfl ?_
   refine AJ rfl rfl rfl ?_
   refine AJ rfl rfl rfl ?_
   refine AJ rfl rfl rfl ?_
   refine AJ rfl rfl rfl ?_
   refine AJ rfl rfl rfl ?_
   refine AK ?_
   refine AE ?_
   refine AM rfl ?_
   refine AL ?_
   refine A8 ?_
   refine AA ?_
   refine AC ?_
   refine BD ?_
   refine AD ?_
   refine AE ?_
   refine A5 (k + 1) (by omega) (by omega) ?_ selZ
   rw [hm]
   exact covZ
 ·have hke : k = l.length := by omega
  subst hke
  rw [List.take_length]
  refine AB ?_
  refine AB ?_
  refine AA ?_
  refine AC ?_
  refine AC ?_
  refine AY ?_
  refine AZ ?_
  refine AE ?_
  refine AM rfl ?_
  refine BE rfl ?_
  refine AB ?_
  refine AA ?_
  refine AC ?_
  refine AD ?_
  refine AE ?_
  exact AI (res1 rfl rfl) rsubZ selZ ⟨rfl, rfl⟩
end Go.Proofs.YtijheemiknkleaaGreatDoor
/- The times and the levels of a node, of the reference. -/
namespace Go.Proofs.YtijheemiknkleaaGreatDoor
open Go.Eng Go.Step
set_option maxRecDepth 100000
set_option maxHeartbeats 4000000

theorem tmH_len (n : Int) : ∀ l : List Hd, (tmH l n).length ≤ 2 * l.length
 | [] => by simp [tmH]
 | h :: l => by
  have ih := tmH_len n l
  unfold tmH at ih ⊢
  rw [List.flatMap_cons, List.length_append, List.length_cons]
  split
  ·simp only [List.length_cons, List.length_nil]; omega
  ·simp only [List.length_nil]; omega
theorem sa_len : ∀ {out f : List Int}, SA out → (∀ x ∈ out, x ∈ f) → out.length ≤ f.length
 | [], _, _, _ => by simp
 | a :: out, f, h, hm => by
  have h2 := List.pairwise_cons.1 h
  have ih := sa_len (out := out) (f := f.erase a) h2.2 (fun x hx => by
   have := h2.1 x hx
   exact (List.mem_erase_of_ne (by omega)).2 (hm x (by simp [hx])))
  rw [List.length_erase_of_mem (hm a (by simp))] at ih
  have := List.length_pos_of_mem (hm a (by simp))
  rw [List.length_cons]; omega
theorem hts_len2 (l : List Hd) (n : Int) : (hts l n).length ≤ 2 * l.length := by
 obtain ⟨h1, h2⟩ := hts_sa l n
 have := sa_len h1 (fun x hx => (h2 x).1 hx)
 have := tmH_len n l
 omega
end Go.Proofs.YtijheemiknkleaaGreatDoor
/- Holds that fit the quotas. No program in sight. No conditions. -/
namespace Go.Step
theorem cmpI_neg (a b : Int) : cmpI a b = -cmpI b a := by
  unfold cmpI
  by_cases h1 : a < b
  · rw [if_pos h1, if_neg (by omega), if_pos h1]
  · rw [if_neg h1]
    by_cases h2 : b < a
    · rw [if_pos h2, if_pos h2]; rfl
    · rw [if_neg h2, if_neg h2, if_neg h1]; rfl
theorem orI_neg : ∀ l : List Int, orI (l.map (fun x => -x)) = -orI l
  | [] => rfl
  | x :: l => by
    have ih := orI_neg l
    simp only [List.map_cons, orI]
    by_cases h : x = 0
    · subst h; simp [ih]
    · rw [if_pos h, if_pos (by omega)]
theorem cmpHd_neg (x y : Hd) : cmpHd x y = -cmpHd y x := by
  unfold cmpHd
  rw [← orI_neg]
  simp only [List.map_cons, List.map_nil]
  rw [cmpI_neg x.n, cmpI_neg x.a, cmpI_neg x.b, cmpI_neg x.k, cmpI_neg x.s]
def hdE (nq : Nat) (l : List Hd) (i : Nat) : Int := match l[i]? with
  | some h => if ¬ okHd nq h then 2 else if 0 < i ∧ 0 < cmpHd (l.getD (i - 1) h) h then 9 else 0
  | none => 0
theorem hdE_at {nq : Nat} {l : List Hd} {i : Nat} {h : Hd} (e : l[i]? = some h) : hdE nq l i = if ¬ okHd nq h then 2 else if 0 < i ∧ 0 < cmpHd (l.getD (i - 1) h) h then 9 else 0 := by unfold hdE; rw [e]
def fitB (qs : List Int) (l : List Hd) : Bool := l.all (fun h => decide (stored l h.n h.a ≤ qs.getD h.n.toNat 0))
def chkH (qs : List Int) (cs : List Ct) (l : List Hd) : Int :=
  if chkPl qs cs ≠ 0 then 1 else if 512 < l.length then 4 else if firstE (hdE qs.length l) l.length ≠ 0 then firstE (hdE qs.length l) l.length else if fitB qs l then 0 else 15
theorem hdE_ok {nq : Nat} {l : List Hd} {m : Nat} (h : firstE (hdE nq l) m = 0) : ∀ x ∈ l.take m, okHd nq x := fun x hx => by
  obtain ⟨i, hi, rfl⟩ := List.getElem_of_mem hx
  rw [List.length_take] at hi
  have h2 := firstE_zero h i (by omega)
  rw [List.getElem_take]
  rw [hdE_at (List.getElem?_eq_getElem (by omega : i < l.length))] at h2
  by_cases hc : okHd nq l[i]
  · exact hc
  · rw [if_pos hc] at h2; omega
theorem mostL_le {f : List Lv} {Q : Int} (hQ : 0 ≤ Q) : mostL f ≤ Q ↔ ∀ x ∈ f, x.v ≤ Q := by
  have h : ∀ (f : List Lv) (a : Int), f.foldl (fun n x => max n x.v) a ≤ Q ↔ a ≤ Q ∧ ∀ x ∈ f, x.v ≤ Q := by
    intro f
    induction f with
    | nil => intro a; simp
    | cons y f ih =>
      intro a
      rw [List.foldl_cons, ih]
      constructor
      · rintro ⟨h1, h2⟩
        refine ⟨by omega, fun x hx => ?_⟩
        rcases List.mem_cons.1 hx with rfl | hx
        · omega
        · exact h2 x hx
      · rintro ⟨h1, h2⟩
        have := h2 y (by simp)
        exact ⟨by omega, fun x hx => h2 x (by simp [hx])⟩
  unfold mostL
  rw [h f 0]
  exact ⟨fun h => h.2, fun h => ⟨hQ, h⟩⟩
theorem comb_le {F : Int → Int} {Q : Int} : ∀ {ts : List Int} {last : Int}, last ≤ Q → ((∀ x ∈ comb F last ts, x.v ≤ Q) ↔ ∀ t ∈ ts, F t ≤ Q)
  | [], last, _ => by simp [comb]
  | t :: ts, last, h => by
    by_cases hc : F t = last
    · have e : comb F last (t :: ts) = comb F (F t) ts := by simp only [comb]; rw [if_neg (fun hh => hh hc)]
      rw [e, comb_le (by omega)]
      constructor
      · intro hh x hx
        rcases List.mem_cons.1 hx with rfl | hx
        · omega
        · exact hh x hx
      · exact fun hh x hx => hh x (by simp [hx])
    · have e : comb F last (t :: ts) = ⟨t, F t⟩ :: comb F (F t) ts := by simp only [comb]; rw [if_pos hc]
      rw [e]
      constructor
      · intro hh
        have h1 := hh ⟨t, F t⟩ (by simp)
        dsimp only at h1
        have h2 := (comb_le (F := F) (ts := ts) h1).1 (fun x hx => hh x (by simp [hx]))
        intro x hx
        rcases List.mem_cons.1 hx with rfl | hx
        · exact h1
        · exact h2 x hx
      · intro hh
        have h1 := hh t (by simp)
        have h2 := (comb_le (F := F) (ts := ts) h1).2 (fun x hx => hh x (by simp [hx]))
        intro x hx
        rcases List.mem_cons.1 hx with rfl | hx
        · exact h1
        · exact h2 x hx
theorem stored_mono {n t s : Int} : ∀ {l : List Hd}, (∀ g ∈ l, 0 ≤ g.s ∧ (g.n = n → g.a ≤ t → t < g.b → g.a ≤ s ∧ s < g.b)) → stored l n t ≤ stored l n s
  | [], _ => by simp [stored]
  | g :: l, H => by
    have ih := stored_mono (l := l) (fun x hx => H x (by simp [hx]))
    obtain ⟨h1, h2⟩ := H g (by simp)
    simp only [stored]
    by_cases c : g.n = n ∧ g.a ≤ t ∧ t < g.b
    · have := h2 c.1 c.2.1 c.2.2
      rw [if_pos c, if_pos ⟨c.1, this⟩]; omega
    · rw [if_neg c]; split <;> omega
theorem last_active {n t : Int} : ∀ (l : List Hd), (∀ g ∈ l, g.n = n → ¬ (g.a ≤ t ∧ t < g.b)) ∨ ∃ h ∈ l, h.n = n ∧ h.a ≤ t ∧ ∀ g ∈ l, g.n = n → g.a ≤ t → t < g.b → g.a ≤ h.a
  | [] => .inl (by simp)
  | g :: l => by
    rcases last_active (n := n) (t := t) l with h | ⟨h, hl, h1, h2, h3⟩
    · by_cases c : g.n = n ∧ g.a ≤ t ∧ t < g.b
      · refine .inr ⟨g, by simp, c.1, c.2.1, fun x hx k1 k2 k3 => ?_⟩
        rcases List.mem_cons.1 hx with rfl | hx
        · exact Int.le_refl _
        · exact absurd ⟨k2, k3⟩ (h x hx k1)
      · refine .inl (fun x hx k1 k2 => ?_)
        rcases List.mem_cons.1 hx with rfl | hx
        · exact c ⟨k1, k2⟩
        · exact h x hx k1 k2
    · by_cases c : (g.n = n ∧ g.a ≤ t ∧ t < g.b) ∧ h.a < g.a
      · refine .inr ⟨g, by simp, c.1.1, c.1.2.1, fun x hx k1 k2 k3 => ?_⟩
        rcases List.mem_cons.1 hx with rfl | hx
        · exact Int.le_refl _
        · have := h3 x hx k1 k2 k3; omega
      · refine .inr ⟨h, by simp [hl], h1, h2, fun x hx k1 k2 k3 => ?_⟩
        rcases List.mem_cons.1 hx with rfl | hx
        · omega
        · exact h3 x hx k1 k2 k3
theorem most_fits {l : List Hd} {n Q : Int} {nq : Nat} (hok : ∀ h ∈ l, okHd nq h) (hQ : 0 ≤ Q) : mostL (lvH l n) ≤ Q ↔ ∀ h ∈ l, h.n = n → stored l n h.a ≤ Q := by
  unfold lvH
  rw [mostL_le hQ, comb_le hQ]
  obtain ⟨h1, h2⟩ := hts_sa l n
  constructor
  · exact fun H h hl hn => H _ ((h2 _).2 (mem_tmH.2 ⟨h, hl, hn, .inl rfl⟩))
  · intro H t ht
    rcases last_active (n := n) (t := t) l with c | ⟨h, hl, k1, k2, k3⟩
    · have : stored l n t ≤ stored l n (-1) := stored_mono (fun g hg => ⟨by have := (hok g hg).2.2.1; omega, fun a b d => absurd ⟨b, d⟩ (c g hg a)⟩)
      have e0 : stored l n (-1) = 0 := stored_early (fun h hl hn => by have := (hok h hl).2.1; omega)
      omega
    · have : stored l n t ≤ stored l n h.a := stored_mono (fun g hg => ⟨by have := (hok g hg).2.2.1; omega, fun a b d => ⟨k3 g hg a b d, by omega⟩⟩)
      have := H h hl k1
      omega
end Go.Step
/- What is wrong with holds, of the program and of the reference. -/
namespace Go.Proofs.YtijheemiknkleaaGreatDoor
open Go.Eng Go.Step
set_option maxRecDepth 100000
set_option maxHeartbeats 4000000

theorem fitB_hit {qs : List Int} {l : List Hd} {h : Hd} (hm : h ∈ l) (hc : qs.getD h.n.toNat 0 < Step.stored l h.n h.a) : fitB qs l = false := by
 unfold fitB
 rw [List.all_eq_false]
 exact ⟨h, hm, by rw [decide_eq_false (by omega)]; simp⟩
set_option maxHeartbeats 16000000 in
theorem fits_spec (ρ σ : PH) (pq pc : Option Addr) (kq nc kc : Nat) (qs : List Int) (v : Value) (l : List Hd) (hq : IntsAt ρ (.slice pq qs.length kq) qs) (hv : HdAt σ v l) (hok : ∀ h ∈ l, okHd qs.length h) (hl : l.length ≤ 600) :
  Ans Tryz.prog (fv 71) [.agg #[.slice pq qs.length kq, .slice pc nc kc], v] [ρ, σ] (fun r => r = .bool (fitB qs l)) := by
 have hv2 := hv
 obtain ⟨q, c, rfl, hr⟩ := hv.val encH_len
 obtain ⟨_, _, e, hrq⟩ := hq.val Eng.encI_len
 simp only [Value.slice.injEq] at e
 obtain ⟨rfl, _, rfl⟩ := e
 refine spec_in (cap := []) Tryz.func71 rfl rfl Tryz.ntmps71 rfl envZ (fun N β => ?_)
 refine AB ?_
 refine AA ?_
 refine BF (BC rfl) rfl rfl rfl ?_
 rintro _ _ ⟨b1, rfl, rfl⟩
 refine AU (ρ := sng b1 _) takeZ ?_
 have c10 : rdc (sng b1 (.cells #[.slice pq qs.length kq, .slice pc nc kc] 25 (0, 0))) b1 0 = some (.slice pq qs.length kq) := by rw [rdc_sng]; rfl
 refine AD ?_
 refine AE ?_
 refine AB ?_
 refine AB ?_
 refine AA ?_
 refine AD ?_
 refine AE ?_
 refine AV ?_
 refine BM [1, 2] (0 : Nat) (fun k => k ≤ l.length ∧ ∀ h ∈ l.take k, Step.stored l h.n h.a ≤ qs.getD h.n.toNat 0) (fun k => [(5, int k)]) (fun _ => []) (fun k => l.length - k) pickZ ⟨by omega, by simp⟩ covZ selZ ?_
 rintro k ⟨hk, hI⟩
 by_cases hlt : k < l.length
 ·have hx := List.getElem?_eq_getElem hlt
  have hmem := List.getElem_mem hlt
  have hh := (hok _ hmem).1
  have htk : l.take (k + 1) = l.take k ++ [l[k]] := List.take_succ_eq_append_getElem hlt
  obtain ⟨b2, o2, rfl, _, g0, g1, _⟩ := hdRow5 hr hx
  generalize l[k] = h at g0 g1 hh hmem htk
  obtain ⟨nn, hnn⟩ := Int.eq_ofNat_of_zero_le hh.1
  have hnl : nn < qs.length := by omega
  have hqx := List.getElem?_eq_getElem hnl
  obtain ⟨b3, o3, rfl, gq⟩ := hrq.int hqx
  have hgd : qs.getD h.n.toNat 0 = qs[nn] := by rw [hnn, Int.toNat_natCast, List.getD_eq_getElem?_getD, hqx]; rfl
  have hs := stored_spec σ _ l h.n h.a qs.length hv2 hok hl
  have hhit := @fitB_hit qs l h hmem
  have hnext : Step.stored l h.n h.a ≤ qs.getD h.n.toNat 0 → ∀ g ∈ l.take (k + 1), Step.stored l g.n g.a ≤ qs.getD g.n.toNat 0 := fun hle g hg => by
   rw [htk] at hg
   rcases List.mem_append.1 hg with hg | hg
   ·exact hI g hg
   ·simp at hg; subst hg; exact hle
  rw [hgd] at hhit hnext
  generalize Step.stored l h.n h.a = s at hs hhit hnext
  generalize qs[nn] = qv at gq hhit hnext
  rw [hnn] at g0 hs
  refine AB ?_
  refine AB ?_
  refine AA ?_
  refine AC ?_
  refine AC ?_
  refine AY ?_
  refine BI ?_
  refine AE ?_
  refine AQ rfl ?_
  refine AL ?_
  refine AB ?_
  refine AV ?_
  refine AB ?_
  refine BA (.q 0 (.q 1 (.q 2 (.q 3 (.q 4 (.q 5 (.q 6 (.q 7 (.q 8 (.q 9 (.q 10 (.q 12 (.q 13 (.q 14 (.q 15 (.q 16 (.q 17 (.q 18 (.q 19 (.q 20 (.l 11 .e (.q 21 .nil)))))))))))))))))))))) [] rfl (by kernel_rfl) Sel.nil ?_
  refine AS ?_
  refine AS ?_
  refine AS ?_
  refine BJ ?_
  refine B8 ?_
  refine AP ?_
  refine AS ?_
  refine AS ?_
  refine BJ ?_
  refine BU ?_
  refine AP ?_
  refine AW ?_
  refine AP ?_
  refine AS ?_
  refine AS ?_
  refine BJ ?_
  refine B8 ?_
  refine AP ?_
  refine C1 ?_
  refine AP ?_
  refine CJ (BY rfl hs rfl rfl rdZ rfl rfl ?_)
  rintro _ rfl
  by_cases hc : qv < s
  ·rw [hhit hc]
   refine DW ?_
   refine A7 ?_
   refine AQ rfl ?_
   refine AB ?_
   refine AA ?_
   refine AD ?_
   refine AE ?_
   exact AI (res1 rfl rfl) rsubZ selZ ⟨rfl, rfl⟩
  ·have hn2 := hnext (by omega)
   refine CM ?_
   refine A7 ?_
   refine AM rfl ?_
   refine AL ?_
   refine A8 ?_
   refine AA ?_
   refine AC ?_
   refine BD ?_
   refine AD ?_
   refine AE ?_
   exact A5 (k + 1) ⟨by omega, hn2⟩ (by omega) covZ selZ
 ·have hke : k = l.length := by omega
  subst hke
  rw [List.take_length] at hI
  have : fitB qs l = true := List.all_eq_true.2 (fun h hm => decide_eq_true (hI h hm))
  rw [this]
  refine AB ?_
  refine AB ?_
  refine AA ?_
  refine AC ?_
  refine AC ?_
  refine AY ?_
  refine AZ ?_
  refine AE ?_
  refine AM rfl ?_
  refine BE rfl ?_
  refine AB ?_
  refine AA ?_
  refine AD ?_
  refine AE ?_
  exact AI (res1 rfl rfl) rsubZ selZ ⟨rfl, rfl⟩
set_option maxHeartbeats 16000000 in
theorem refCheck28_spec (ρ τ σ : PH) (pq pc : Option Addr) (kq kc : Nat) (qs : List Int) (cs : List Ct) (v : Value) (l : List Hd) (hq : IntsAt ρ (.slice pq qs.length kq) qs) (hc : CtAt τ (.slice pc cs.length kc) cs) (lq : qs.length ≤ 9223372036854775807) (lc : cs.length ≤ 9223372036854775807) (hv : HdAt σ v l) (hl : l.length ≤ 9223372036854775807) :
  Ans Tryz.prog (fv 30) [.agg #[.slice pq qs.length kq, .slice pc cs.length kc], v] [ρ, τ, σ] (fun r => r = int (chkH qs cs l)) := by
 have hv2 := hv
 obtain ⟨q, c, rfl, hr⟩ := hv.val encH_len
 refine spec_in (cap := []) Tryz.func30 rfl rfl Tryz.ntmps30 rfl envZ (fun N β => ?_)
 refine AB ?_
 refine AA ?_
 refine BF (BC rfl) rfl rfl rfl ?_
 rintro _ _ ⟨b1, rfl, rfl⟩
 refine AU (ρ := sng b1 _) takeZ ?_
 have c1 : RdN (sng b1 (.cells #[.slice pq qs.length kq, .slice pc cs.length kc] 25 (0, 0))) b1 0 [.slice pq qs.length kq, .slice pc cs.length kc] := fun j u hu => by rw [rdc_sng, Nat.zero_add]; simpa using hu
 refine AD ?_
 refine AE ?_
 refine AB ?_
 refine AB ?_
 refine AA ?_
 refine AN ?_
 refine A3 (refPlanCheck_spec ρ τ pq pc kq kc qs cs hq hc lq lc) rfl rfl rdZ rfl rfl ?_
 rintro _ rfl
 unfold chkH
 by_cases hp : chkPl qs cs = 0
 rotate_left
 ·rw [if_pos hp]
  generalize chkPl qs cs = z at hp
  refine CR ?_
  refine AE ?_
  refine AQ rfl ?_
  refine AB ?_
  refine AA ?_
  refine AD ?_
  refine AE ?_
  exact AI (res1 rfl rfl) rsubZ selZ ⟨rfl, rfl⟩
 rw [if_neg (fun h => h hp), hp]
 by_cases hbig : 512 < l.length
 ·rw [if_pos hbig]
  refine BG ?_
  refine AE ?_
  refine AM rfl ?_
  refine AL ?_
  refine AB ?_
  refine AB ?_
  refine AA ?_
  refine AC ?_
  refine AY ?_
  refine CH ?_
  refine AE ?_
  refine AQ rfl ?_
  refine AB ?_
  refine AA ?_
  refine AD ?_
  refine AE ?_
  exact AI (res1 rfl rfl) rsubZ selZ ⟨rfl, rfl⟩
 rw [if_neg hbig]
 refine BG ?_
 refine AE ?_
 refine AM rfl ?_
 refine AL ?_
 refine AB ?_
 refine AB ?_
 refine AA ?_
 refine AC ?_
 refine AY ?_
 refine BO ?_
 refine AE ?_
 refine AM rfl ?_
 refine AL ?_
 refine AB ?_
 refine AB ?_
 refine AA ?_
 refine AD ?_
 refine AE ?_
 refine AV ?_
 refine BM [1, 2] (0 : Nat) (fun k => k ≤ l.length ∧ firstE (hdE qs.length l) k = 0) (fun k => [(5, int k)]) (fun _ => []) (fun k => l.length - k) pickZ ⟨by omega, rfl⟩ covZ selZ ?_
 rintro k ⟨hk, hI⟩
 by_cases hlt : k < l.length
 ·have hx := List.getElem?_eq_getElem hlt
  obtain ⟨b2, o2, rfl, hrd, _⟩ := hdRow5 hr hx
  have hE := hdE_at (nq := qs.length) hx
  generalize l[k] = h at hrd hE
  have hva := refValid28_spec (.slice pq qs.length kq) (.slice pc cs.length kc) ρ qs kq pq h rfl rfl
  refine AB ?_
  refine AB ?_
  refine AA ?_
  refine AC ?_
  refine AC ?_
  refine AY ?_
  refine BI ?_
  refine AE ?_
  refine AQ rfl ?_
  refine AL ?_
  refine AB ?_
  refine AV ?_
  refine AB ?_
  refine AB ?_
  refine BA (.q 0 (.q 1 (.q 2 (.q 3 (.q 4 (.l 5 .e (.q 6 .nil))))))) [] rfl (by kernel_rfl) Sel.nil ?_
  refine BL ?_
  refine AS ?_
  refine AS ?_
  refine BJ ?_
  refine BL ?_
  refine CJ (BY rfl hva rfl rfl rdZ rfl rfl ?_)
  rintro _ rfl
  by_cases hok : okHd qs.length h
  rotate_left
  ·rw [if_pos hok] at hE
   have hh := firstE_hit hI (by rw [hE]; decide) _ hlt
   rw [if_pos (by rw [hh, hE]; decide), hh, hE, decide_eq_false hok]
   refine CG ?_
   refine A7 ?_
   refine AQ rfl ?_
   refine AB ?_
   refine AA ?_
   refine AD ?_
   refine AE ?_
   exact AI (res1 rfl rfl) rsubZ selZ ⟨rfl, rfl⟩
  rw [if_neg (fun hh => hh hok)] at hE
  rw [decide_eq_true hok]
  refine CG ?_
  refine A7 ?_
  refine AM rfl ?_
  refine AL ?_
  refine AB ?_
  by_cases h0 : k = 0
  ·subst h0
   rw [if_neg (by omega)] at hE
   refine BA (.q 0 (.q 1 (.q 2 (.q 3 (.q 4 (.q 5 (.q 6 (.q 7 (.q 8 (.q 9 (.q 10 (.q 11 (.q 12 (.q 13 .nil)))))))))))))) [] rfl (by kernel_rfl) Sel.nil ?_
   refine AS ?_
   refine CM ?_
   refine AS ?_
   refine AR rfl rfl rfl rfl rfl ?_
   refine AR rfl rfl rfl rfl rfl ?_
   refine AR rfl rfl rfl rfl rfl ?_
   refine AR rfl rfl rfl rfl rfl ?_
   refine AR rfl rfl rfl rfl rfl ?_
   refine AR rfl rfl rfl rfl rfl ?_
   refine AR rfl rfl rfl rfl rfl ?_
   refine AR rfl rfl rfl rfl rfl ?_
   refine AR rfl rfl rfl rfl rfl ?_
   refine AR rfl rfl rfl rfl rfl ?_
   refine BB ?_
   refine A7 ?_
   refine AM rfl ?_
   refine AL ?_
   refine A8 ?_
   refine AA ?_
   refine AC ?_
   refine BD ?_
   refine AD ?_
   refine AE ?_
   exact A5 (0 + 1) ⟨by omega, firstE_ok hI hE⟩ (by omega) covZ selZ
  ·have hlt' : k - 1 < l.length := by omega
   have hx' := List.getElem?_eq_getElem hlt'
   obtain ⟨_, _, e, hrd', _⟩ := hdRow5 hr hx'
   simp only [Option.some.injEq, Addr.mk.injEq, and_true] at e
   obtain ⟨rfl, rfl⟩ := e
   rw [List.getD_eq_getElem?_getD, hx', Option.getD_some, cmpHd_neg] at hE
   generalize l[k - 1] = g at hrd' hE
   have hle := less_spec h g
   refine BA (.q 0 (.q 1 (.q 2 (.q 3 (.q 4 (.q 5 (.q 6 (.q 7 (.q 8 (.q 9 (.q 10 (.q 11 (.l 12 .e (.q 13 .nil)))))))))))))) [] rfl (by kernel_rfl) Sel.nil ?_
   refine AS ?_
   refine DW ?_
   refine AS ?_
   refine AS ?_
   refine AS ?_
   refine BJ ?_
   refine BL ?_
   refine AS ?_
   refine AS ?_
   refine BP ?_
   refine BJ ?_
   refine BL ?_
   refine CJ (BY rfl hle rfl rfl rdZ rfl rfl ?_)
   rintro _ rfl
   by_cases hc9 : cmpHd h g < 0
   ·rw [if_pos (by omega)] at hE
    have hh := firstE_hit hI (by rw [hE]; decide) _ hlt
    rw [if_pos (by rw [hh, hE]; decide), hh, hE, decide_eq_true hc9]
    refine BK ?_
    refine A7 ?_
    refine AQ rfl ?_
    refine AB ?_
    refine AA ?_
    refine AD ?_
    refine AE ?_
    exact AI (res1 rfl rfl) rsubZ selZ ⟨rfl, rfl⟩
   ·rw [if_neg (by omega)] at hE
    rw [decide_eq_false hc9]
    refine BK ?_
    refine A7 ?_
    refine AM rfl ?_
    refine AL ?_
    refine A8 ?_
    refine AA ?_
    refine AC ?_
    refine BD ?_
    refine AD ?_
    refine AE ?_
    exact A5 (k + 1) ⟨by omega, firstE_ok hI hE⟩ (by omega) covZ selZ
 have hke : k = l.length := by omega
 subst hke
 have hok := hdE_ok hI
 rw [List.take_length] at hok
 rw [if_neg (by rw [hI]; simp)]
 refine AB ?_
 refine AB ?_
 refine AA ?_
 refine AC ?_
 refine AC ?_
 refine AY ?_
 refine AZ ?_
 refine AE ?_
 refine AM rfl ?_
 refine BE rfl ?_
 refine AB ?_
 refine AB ?_
 refine AA ?_
 refine AN ?_
 refine AC ?_
 refine A3 (fits_spec ρ σ pq pc kq cs.length kc qs _ l hq hv2 hok (by omega)) rfl rfl rdZ rfl rfl ?_
 rintro _ rfl
 cases fitB qs l with
 | true =>
  refine BZ ?_
  refine AE ?_
  refine AM rfl ?_
  refine AL ?_
  refine AB ?_
  refine AA ?_
  refine AD ?_
  refine AE ?_
  exact AI (res1 rfl rfl) rsubZ selZ ⟨rfl, rfl⟩
 | false =>
  refine BZ ?_
  refine AE ?_
  refine AQ rfl ?_
  refine AB ?_
  refine AA ?_
  refine AD ?_
  refine AE ?_
  exact AI (res1 rfl rfl) rsubZ selZ ⟨rfl, rfl⟩
end Go.Proofs.YtijheemiknkleaaGreatDoor
/- What is wrong with holds, of the program. -/
namespace Go.Proofs.YtijheemiknkleaaGreatDoor
open Go.Eng Go.Step
set_option maxRecDepth 100000
set_option maxHeartbeats 4000000

theorem chkPl_quo {qs : List Int} {cs : List Ct} (h : chkPl qs cs = 0) : (1 ≤ qs.length ∧ qs.length ≤ 16) ∧ ∀ (j : Nat) (q : Int), qs[j]? = some q → 0 ≤ q ∧ q ≤ 1073741824 := by
 unfold chkPl at h
 split at h
 ·omega
 ·rename_i hl
  split at h
  ·rename_i h2; exact absurd h h2
  ·rename_i h2
   have h3 : firstE (quoE qs) qs.length = 0 := Decidable.not_not.1 h2
   refine ⟨by omega, fun j q hj => ?_⟩
   have := firstE_zero h3 j (List.getElem?_eq_some_iff.1 hj).1
   rw [quoE_at hj] at this
   split at this <;> omega
theorem fit_all {qs : List Int} {l : List Hd} (hok : ∀ h ∈ l, okHd qs.length h) (hq : ∀ (j : Nat) (q : Int), qs[j]? = some q → 0 ≤ q ∧ q ≤ 1073741824) (H : ∀ (j : Nat) (q : Int), qs[j]? = some q → mostL (lvH l j) ≤ q) : fitB qs l = true :=
 List.all_eq_true.2 (fun h hm => decide_eq_true (by
  have hn := (hok h hm).1
  obtain ⟨nn, hnn⟩ := Int.eq_ofNat_of_zero_le hn.1
  have hx := List.getElem?_eq_getElem (show nn < qs.length by omega)
  have := (most_fits hok (hq nn _ hx).1).1 (H nn _ hx) h hm hnn
  rw [hnn, Int.toNat_natCast, List.getD_eq_getElem?_getD, hx]
  exact this))
theorem fit_bad {qs : List Int} {l : List Hd} (hok : ∀ h ∈ l, okHd qs.length h) {j : Nat} {q : Int} (hj : qs[j]? = some q) (hq : 0 ≤ q) (H : q < mostL (lvH l j)) : fitB qs l = false := by
 cases hf : fitB qs l with
 | false => rfl
 | true =>
  exfalso
  have : mostL (lvH l j) ≤ q := (most_fits hok hq).2 (fun h hm hn => by
   have := of_decide_eq_true (List.all_eq_true.1 hf h hm)
   rw [hn, Int.toNat_natCast, List.getD_eq_getElem?_getD, hj] at this
   exact this)
  omega
theorem lvH_len (l : List Hd) (n : Int) : (lvH l n).length ≤ 2 * l.length := by
 have := comb_len (Step.stored l n) (hts l n) 0
 have := hts_len2 l n
 unfold lvH; omega
set_option maxHeartbeats 16000000 in
theorem check28_spec (ρ τ σ : PH) (pq pc : Option Addr) (kq kc : Nat) (qs : List Int) (cs : List Ct) (v : Value) (l : List Hd) (hq : IntsAt ρ (.slice pq qs.length kq) qs) (hc : CtAt τ (.slice pc cs.length kc) cs) (hcap : cs.length ≤ kc) (lq : qs.length ≤ 9223372036854775807) (lc : cs.length ≤ 9223372036854775807) (hv : HdAt σ v l) (hl : l.length ≤ 9223372036854775807) :
  Ans Tryz.prog (fv 95) [.agg #[.slice pq qs.length kq, .slice pc cs.length kc], v] [ρ, τ, σ] (fun r => r = int (chkH qs cs l)) := by
 have hv2 := hv
 obtain ⟨q, c, rfl, hr⟩ := hv.val encH_len
 obtain ⟨_, _, e, hrq⟩ := hq.val Eng.encI_len
 simp only [Value.slice.injEq] at e
 obtain ⟨rfl, _, rfl⟩ := e
 refine spec_in (cap := []) Tryz.func95 rfl rfl Tryz.ntmps95 rfl envZ (fun N β => ?_)
 refine AB ?_
 refine AA ?_
 refine BF (BC rfl) rfl rfl rfl ?_
 rintro _ _ ⟨b1, rfl, rfl⟩
 refine AU (ρ := sng b1 _) takeZ ?_
 have c1 : RdN (sng b1 (.cells #[.slice pq qs.length kq, .slice pc cs.length kc] 25 (0, 0))) b1 0 [.slice pq qs.length kq, .slice pc cs.length kc] := fun j u hu => by rw [rdc_sng, Nat.zero_add]; simpa using hu
 have c10 : rdc (sng b1 (.cells #[.slice pq qs.length kq, .slice pc cs.length kc] 25 (0, 0))) b1 0 = some (.slice pq qs.length kq) := by rw [rdc_sng]; rfl
 refine AD ?_
 refine AE ?_
 refine AB ?_
 refine AB ?_
 refine AA ?_
 refine AN ?_
 refine A3 (planCheck_spec ρ τ pq pc kq kc qs cs hq hc hcap lq lc) rfl rfl rdZ rfl rfl ?_
 rintro _ rfl
 unfold chkH
 by_cases hp : chkPl qs cs = 0
 rotate_left
 ·rw [if_pos hp]
  generalize chkPl qs cs = z at hp
  refine CR ?_
  refine AE ?_
  refine AQ rfl ?_
  refine AB ?_
  refine AA ?_
  refine AD ?_
  refine AE ?_
  exact AI (res1 rfl rfl) rsubZ selZ ⟨rfl, rfl⟩
 obtain ⟨hql, hquo⟩ := chkPl_quo hp
 rw [if_neg (fun h => h hp), hp]
 by_cases hbig : 512 < l.length
 ·rw [if_pos hbig]
  refine BG ?_
  refine AE ?_
  refine AM rfl ?_
  refine AL ?_
  refine AB ?_
  refine AB ?_
  refine AA ?_
  refine AC ?_
  refine AY ?_
  refine CH ?_
  refine AE ?_
  refine AQ rfl ?_
  refine AB ?_
  refine AA ?_
  refine AD ?_
  refine AE ?_
  exact AI (res1 rfl rfl) rsubZ selZ ⟨rfl, rfl⟩
 rw [if_neg hbig]
 refine BG ?_
 refine AE ?_
 refine AM rfl ?_
 refine AL ?_
 refine AB ?_
 refine AB ?_
 refine AA ?_
 refine AC ?_
 refine AY ?_
 refine BO ?_
 refine AE ?_
 refine AM rfl ?_
 refine AL ?_
 refine AB ?_
 refine AB ?_
 refine AA ?_
 refine AC ?_
 refine AY ?_
 refine AC ?_
 refine AE ?_
 refine AV ?_
 refine BM [1, 2, 15, 16] (0 : Nat) (fun k => k ≤ l.length ∧ firstE (hdE qs.length l) k = 0) (fun k => [(17, int k)]) (fun _ => []) (fun k => l.length - k) pickZ ⟨by omega, rfl⟩ covZ selZ ?_
 rintro k ⟨hk, hI⟩
 by_cases hlt : k < l.length
 ·have hx := List.getElem?_eq_getElem hlt
  obtain ⟨b2, o2, rfl, hrd, _⟩ := hdRow5 hr hx
  have hE := hdE_at (nq := qs.length) hx
  generalize l[k] = h at hrd hE
  have hva := valid28_spec (.slice pq qs.length kq) (.slice pc cs.length kc) ρ qs kq pq h rfl rfl
  refine AB ?_
  refine AA ?_
  refine BI ?_
  refine AE ?_
  refine AB ?_
  refine AQ rfl ?_
  refine AL ?_
  refine AB ?_
  refine AV ?_
  refine AB ?_
  refine AA ?_
  refine AC ?_
  refine A9 ?_
  refine AN ?_
  refine A4 ?_; rintro _ _ ⟨b, rfl, rfl⟩
  refine AD ?_
  refine A2 ?_; rintro _ _ ⟨rfl, rfl⟩
  refine AE ?_
  refine AB ?_
  refine AB ?_
  refine AA ?_
  refine AN ?_
  refine AN ?_
  revert b; intro b6
  refine A3 hva rfl rfl rdZ rfl rfl ?_
  rintro _ rfl
  by_cases hok : okHd qs.length h
  rotate_left
  ·rw [if_pos hok] at hE
   have hh := firstE_hit hI (by rw [hE]; decide) _ hlt
   rw [if_pos (by rw [hh, hE]; decide), hh, hE, decide_eq_false hok]
   refine BZ ?_
   refine AE ?_
   refine AQ rfl ?_
   refine AB ?_
   refine AA ?_
   refine AD ?_
   refine AE ?_
   exact AI (res1 rfl rfl) rsubZ selZ ⟨rfl, rfl⟩
  rw [if_neg (fun hh => hh hok)] at hE
  rw [decide_eq_true hok]
  refine BZ ?_
  refine AE ?_
  refine AM rfl ?_
  refine AL ?_
  refine AB ?_
  by_cases h0 : k = 0
  ·subst h0
   rw [if_neg (by omega)] at hE
   refine BA (.q 0 (.q 1 (.q 2 (.q 3 (.q 4 (.q 5 (.q 6 (.q 7 (.q 8 (.q 9 (.q 10 (.q 11 .nil)))))))))))) [sng b6 _] rfl (by kernel_rfl) selZ ?_
   refine AS ?_
   refine CM ?_
   refine AS ?_
   refine AR rfl rfl rfl rfl rfl ?_
   refine AR rfl rfl rfl rfl rfl ?_
   refine AR rfl rfl rfl rfl rfl ?_
   refine AR rfl rfl rfl rfl rfl ?_
   refine AR rfl rfl rfl rfl rfl ?_
   refine AR rfl rfl rfl rfl rfl ?_
   refine AR rfl rfl rfl rfl rfl ?_
   refine AR rfl rfl rfl rfl rfl ?_
   refine BB ?_
   refine A7 ?_
   refine AM rfl ?_
   refine AL ?_
   refine A8 ?_
   refine AA ?_
   refine BD ?_
   refine AC ?_
   refine AE ?_
   exact A5 (0 + 1) ⟨by omega, firstE_ok hI hE⟩ (by omega) covZ selZ
  ·have hlt' : k - 1 < l.length := by omega
   have hx' := List.getElem?_eq_getElem hlt'
   obtain ⟨_, _, e, hrd', _⟩ := hdRow5 hr hx'
   simp only [Option.some.injEq, Addr.mk.injEq, and_true] at e
   obtain ⟨rfl, rfl⟩ := e
   rw [List.getD_eq_getElem?_getD, hx', Option.getD_some] at hE
   generalize l[k - 1] = g at hrd' hE
   have hle := compare_spec g h
   generalize cmpHd g h = z at hle hE
   refine BA (.q 0 (.q 1 (.q 2 (.q 3 (.q 4 (.q 5 (.q 6 (.q 7 (.q 8 (.l 9 .e (.q 10 (.q 11 .nil)))))))))))) [sng b6 _] rfl (by kernel_rfl) selZ ?_
   refine AS ?_
   refine DW ?_
   refine AS ?_
   refine AS ?_
   refine AS ?_
   refine BP ?_
   refine BJ ?_
   refine BL ?_
   refine BL ?_
   refine CJ (BY rfl hle rfl rfl rdZ rfl rfl ?_)
   rintro _ rfl
   by_cases hc9 : 0 < z
   ·rw [if_pos (by omega)] at hE
    have hh := firstE_hit hI (by rw [hE]; decide) _ hlt
    rw [if_pos (by rw [hh, hE]; decide), hh, hE]
    refine DW ?_
    refine BK ?_
    refine A7 ?_
    refine AQ rfl ?_
    refine AB ?_
    refine AA ?_
    refine AD ?_
    refine AE ?_
    exact AI (res1 rfl rfl) rsubZ selZ ⟨rfl, rfl⟩
   ·rw [if_neg (by omega)] at hE
    refine CM ?_
    refine BK ?_
    refine A7 ?_
    refine AM rfl ?_
    refine AL ?_
    refine A8 ?_
    refine AA ?_
    refine BD ?_
    refine AC ?_
    refine AE ?_
    exact A5 (k + 1) ⟨by omega, firstE_ok hI hE⟩ (by omega) covZ selZ
 have hke : k = l.length := by omega
 subst hke
 have hok := hdE_ok hI
 rw [List.take_length] at hok
 rw [if_neg (by rw [hI]; simp)]
 clear hI hk hlt
 refine AB ?_
 refine AA ?_
 refine AZ ?_
 refine AE ?_
 refine AB ?_
 refine AM rfl ?_
 refine BE rfl ?_
 refine AB ?_
 refine AB ?_
 refine AA ?_
 refine AG ?_
 refine AF ?_
 refine AY ?_
 refine AC ?_
 refine AE ?_
 refine AV ?_
 refine BM [1, 40, 41] (0 : Nat) (fun k => k ≤ qs.length ∧ ∀ (j : Nat) (q : Int), j < k → qs[j]? = some q → mostL (lvH l j) ≤ q) (fun k => [(42, int k)]) (fun _ => []) (fun k => qs.length - k) pickZ ⟨by omega, fun j q h => by omega⟩ covZ selZ ?_
 rintro k ⟨hk, hI⟩
 by_cases hlt : k < qs.length
 ·have hx := List.getElem?_eq_getElem hlt
  obtain ⟨b2, o2, rfl, g1⟩ := hrq.int hx
  have hq0 := hquo k _ hx
  have hbad := @fit_bad qs l hok k _ hx hq0.1
  have hnext : mostL (lvH l k) ≤ qs[k] → ∀ (j : Nat) (q : Int), j < k + 1 → qs[j]? = some q → mostL (lvH l j) ≤ q := fun hle j q hj hjq => by
   by_cases e : j = k
   ·subst e; rw [hx] at hjq; injection hjq with hjq; rw [← hjq]; exact hle
   ·exact hI j q (by omega) hjq
  generalize qs[k] = qv at g1 hbad hnext
  refine AB ?_
  refine AA ?_
  refine BI ?_
  refine AE ?_
  refine AB ?_
  refine AQ rfl ?_
  refine AL ?_
  refine AB ?_
  refine AV ?_
  refine AB ?_
  refine AA ?_
  refine AC ?_
  refine B9 ?_
  refine AF ?_
  refine AD ?_
  refine AD ?_
  refine AE ?_
  refine AB ?_
  refine AA ?_
  refine AC ?_
  refine AC ?_
  refine B6 (levels_spec σ _ l k qs.length hv2 hok (by omega)) rfl rfl rdZ rfl rfl ?_
  rintro ul σl hOl
  have hL : LvAt σl ul (lvH l k) := hOl.at
  have hll := lvH_len l k
  refine A3 (most_spec σl ul (lvH l k) hL (by omega)) rfl rfl rdZ rfl rfl ?_
  rintro _ rfl
  generalize mostL (lvH l k) = mv at hbad hnext
  by_cases hcq : qv < mv
  ·rw [hbad hcq]
   refine AC ?_
   refine CH ?_
   refine AE ?_
   refine AQ rfl ?_
   refine AB ?_
   refine AA ?_
   refine AD ?_
   refine AE ?_
   exact AI (res1 rfl rfl) rsubZ selZ ⟨rfl, rfl⟩
  ·have hn2 := hnext (by omega)
   refine AC ?_
   refine BO ?_
   refine AE ?_
   refine AM rfl ?_
   refine AL ?_
   refine A8 ?_
   refine AA ?_
   refine BD ?_
   refine AC ?_
   refine AE ?_
   exact A5 (k + 1) ⟨by omega, hn2⟩ (by omega) covZ selZ
 have hke : k = qs.length := by omega
 subst hke
 rw [fit_all hok hquo (fun j q hj => hI j q (List.getElem?_eq_some_iff.1 hj).1 hj)]
 refine AB ?_
 refine AA ?_
 refine AZ ?_
 refine AE ?_
 refine AB ?_
 refine AM rfl ?_
 refine BE rfl ?_
 refine AB ?_
 refine AA ?_
 refine AD ?_
 refine AE ?_
 exact AI (res1 rfl rfl) rsubZ selZ ⟨rfl, rfl⟩
end Go.Proofs.YtijheemiknkleaaGreatDoor
/- Where a node can store more: two ways to say it. No program in sight. No conditions. -/
namespace Go.Step
def frA (Q s : Int) (st : Int × List (Int × Int)) (t v : Int) : Int × List (Int × Int) :=
  if Q - v < s then (-1, if 0 ≤ st.1 ∧ st.1 < t then st.2 ++ [(st.1, t)] else st.2) else (if st.1 < 0 then t else st.1, st.2)
def frL (Q s : Int) (st : Int × List (Int × Int)) (x : Lv) : Int × List (Int × Int) := if x.a < 1099511627776 then frA Q s st x.a x.v else st
def finA (st : Int × List (Int × Int)) : List (Int × Int) := if 0 ≤ st.1 ∧ st.1 < 1099511627776 then st.2 ++ [(st.1, 1099511627776)] else st.2
def freeP (Q s : Int) (f : List Lv) : List (Int × Int) := finA (f.foldl (frL Q s) (frA Q s (-1, []) 0 0))
def frB (Q s : Int) (st : (Int × Bool) × List (Int × Int)) (x : Lv) : (Int × Bool) × List (Int × Int) :=
  ((if s ≤ Q - x.v ∧ st.1.2 = false then x.a else st.1.1, decide (s ≤ Q - x.v)), if st.1.2 = true ∧ Q - x.v < s ∧ st.1.1 < x.a then st.2 ++ [(st.1.1, x.a)] else st.2)
def finB (st : (Int × Bool) × List (Int × Int)) : List (Int × Int) := if st.1.2 = true ∧ st.1.1 < 1099511627776 then st.2 ++ [(st.1.1, 1099511627776)] else st.2
structure RlF (A : Int × List (Int × Int)) (B : (Int × Bool) × List (Int × Int)) : Prop where
  o : A.2 = B.2
  p : 0 ≤ B.1.1
  f : A.1 = if B.1.2 = true then B.1.1 else -1
theorem RlF.step {Q s : Int} {A : Int × List (Int × Int)} {B : (Int × Bool) × List (Int × Int)} (h : RlF A B) {x : Lv} (h0 : 0 ≤ x.a) : RlF (frA Q s A x.a x.v) (frB Q s B x) := by
  obtain ⟨a1, a2⟩ := A
  obtain ⟨⟨b1, b2⟩, b3⟩ := B
  obtain ⟨h1, h2, h3⟩ := h
  dsimp only at h1 h2 h3
  subst h1
  unfold frA frB
  dsimp only
  by_cases hr : Q - x.v < s
  · rw [if_pos hr]
    have hd : decide (s ≤ Q - x.v) = false := decide_eq_false (by omega)
    cases b2 with
    | true =>
      simp only [if_true] at h3
      subst h3
      refine ⟨?_, ?_, ?_⟩
      · dsimp only
        by_cases hl : a1 < x.a
        · rw [if_pos ⟨h2, hl⟩, if_pos ⟨rfl, hr, hl⟩]
        · rw [if_neg (by omega), if_neg (by omega)]
      · dsimp only; rw [if_neg (by simp)]; exact h2
      · dsimp only; rw [hd]; rfl
    | false =>
      have h3' : a1 = -1 := by simpa using h3
      subst h3'
      refine ⟨?_, ?_, ?_⟩
      · dsimp only
        rw [if_neg (by omega), if_neg (by simp)]
      · dsimp only; rw [if_neg (by omega)]; exact h2
      · dsimp only; rw [hd]; rfl
  · rw [if_neg hr]
    have hd : decide (s ≤ Q - x.v) = true := decide_eq_true (by omega)
    cases b2 with
    | true =>
      simp only [if_true] at h3
      subst h3
      refine ⟨?_, ?_, ?_⟩
      · dsimp only; rw [if_neg (by omega)]
      · dsimp only; rw [if_neg (by simp)]; exact h2
      · dsimp only; rw [hd, if_pos rfl, if_neg (by omega), if_neg (by simp)]
    | false =>
      have h3' : a1 = -1 := by simpa using h3
      subst h3'
      refine ⟨?_, ?_, ?_⟩
      · dsimp only; rw [if_neg (by simp)]
      · dsimp only; rw [if_pos ⟨by omega, rfl⟩]; exact h0
      · dsimp only; rw [hd, if_pos rfl, if_pos (by omega), if_pos ⟨by omega, rfl⟩]
theorem RlF.fin {A : Int × List (Int × Int)} {B : (Int × Bool) × List (Int × Int)} (h : RlF A B) : finA A = finB B := by
  obtain ⟨a1, a2⟩ := A
  obtain ⟨⟨b1, b2⟩, b3⟩ := B
  obtain ⟨h1, h2, h3⟩ := h
  dsimp only at h1 h2 h3
  subst h1
  unfold finA finB
  dsimp only
  cases b2 with
  | true =>
    simp only [if_true] at h3
    subst h3
    by_cases hl : a1 < 1099511627776
    · rw [if_pos ⟨h2, hl⟩, if_pos ⟨rfl, hl⟩]
    · rw [if_neg (by omega), if_neg (by omega)]
  | false =>
    have h3' : a1 = -1 := by simpa using h3
    subst h3'
    rw [if_neg (by omega), if_neg (by simp)]
theorem RlF.last {Q s : Int} {A : Int × List (Int × Int)} {B : (Int × Bool) × List (Int × Int)} (h : RlF A B) {x : Lv} (hx : x.a = 1099511627776) : finA A = finB (frB Q s B x) := by
  obtain ⟨a1, a2⟩ := A
  obtain ⟨⟨b1, b2⟩, b3⟩ := B
  obtain ⟨h1, h2, h3⟩ := h
  dsimp only at h1 h2 h3
  subst h1
  unfold finA finB frB
  dsimp only
  rw [hx]
  by_cases hr : Q - x.v < s
  · have hd : decide (s ≤ Q - x.v) = false := decide_eq_false (by omega)
    rw [hd]
    cases b2 with
    | true =>
      simp only [if_true] at h3
      subst h3
      by_cases hl : a1 < 1099511627776
      · rw [if_pos ⟨h2, hl⟩, if_neg (by simp), if_pos ⟨rfl, hr, hl⟩]
      · rw [if_neg (by omega), if_neg (by simp), if_neg (by omega)]
    | false =>
      have h3' : a1 = -1 := by simpa using h3
      subst h3'
      rw [if_neg (by omega), if_neg (by simp), if_neg (by simp)]
  · have hd : decide (s ≤ Q - x.v) = true := decide_eq_true (by omega)
    rw [hd]
    cases b2 with
    | true =>
      simp only [if_true] at h3
      subst h3
      rw [if_neg (by simp : ¬ (s ≤ Q - x.v ∧ true = false)), if_neg (by omega : ¬ (true = true ∧ Q - x.v < s ∧ a1 < 1099511627776))]
      by_cases hl : a1 < 1099511627776
      · rw [if_pos ⟨h2, hl⟩, if_pos ⟨rfl, hl⟩]
      · rw [if_neg (by omega), if_neg (by omega)]
    | false =>
      have h3' : a1 = -1 := by simpa using h3
      subst h3'
      rw [if_pos (⟨by omega, rfl⟩ : s ≤ Q - x.v ∧ false = false), if_neg (by omega), if_neg (by omega), if_neg (by simp)]
theorem frA_len (Q s : Int) (st : Int × List (Int × Int)) (t v : Int) : (frA Q s st t v).2.length ≤ st.2.length + 1 := by
  unfold frA
  split
  · dsimp only; split <;> simp
  · dsimp only; omega
theorem frL_len (Q s : Int) (st : Int × List (Int × Int)) (x : Lv) : (frL Q s st x).2.length ≤ st.2.length + 1 := by
  unfold frL
  split
  · exact frA_len ..
  · omega
def frS (Q s : Int) (f : List Lv) (k : Nat) : Int × List (Int × Int) := (f.take k).foldl (frL Q s) (frA Q s (-1, []) 0 0)
theorem frS_next (Q s : Int) {f : List Lv} {k : Nat} {x : Lv} (h : f[k]? = some x) : frS Q s f (k + 1) = frL Q s (frS Q s f k) x := by
  obtain ⟨hk, rfl⟩ := List.getElem?_eq_some_iff.1 h
  unfold frS
  rw [List.take_succ_eq_append_getElem hk, List.foldl_append]; rfl
theorem frS_len (Q s : Int) (f : List Lv) : ∀ k, (frS Q s f k).2.length ≤ k + 1
  | 0 => by
    have := frA_len Q s (-1, []) 0 0
    unfold frS; simpa using this
  | k + 1 => by
    have ih := frS_len Q s f k
    by_cases h : k < f.length
    · rw [frS_next Q s (List.getElem?_eq_getElem h)]
      have := frL_len Q s (frS Q s f k) f[k]
      omega
    · have e : frS Q s f (k + 1) = frS Q s f k := by unfold frS; rw [List.take_of_length_le (by omega), List.take_of_length_le (by omega)]
      rw [e]; omega
theorem comb_mem {F : Int → Int} : ∀ {ts : List Int} {last : Int} {x : Lv}, x ∈ comb F last ts → x.v = F x.a ∧ x.a ∈ ts
  | [], _, x, h => by simp [comb] at h
  | t :: ts, last, x, h => by
    simp only [comb] at h
    split at h
    · rcases List.mem_cons.1 h with rfl | h
      · exact ⟨rfl, by simp⟩
      · have := comb_mem h
        exact ⟨this.1, by simp [this.2]⟩
    · have := comb_mem h
      exact ⟨this.1, by simp [this.2]⟩
theorem lvH_ok {l : List Hd} {n : Int} {nq : Nat} (hok : ∀ h ∈ l, okHd nq h) (hl : l.length ≤ 600) : chkL (-1) 0 (lvH l n) = 0 := by
  unfold lvH
  obtain ⟨h1, h2⟩ := hts_sa l n
  refine comb_chk h1 (fun t ht => ?_)
  obtain ⟨h, hm, _, hx⟩ := mem_tmH.1 ((h2 t).1 ht)
  have hv := (hok h hm).2.1
  have hb := stored_bd (n := n) (t := t) hok
  unfold okV
  rcases hx with rfl | rfl <;> omega
theorem lvH_asc {l : List Hd} {n : Int} {nq : Nat} (hok : ∀ h ∈ l, okHd nq h) (hl : l.length ≤ 600) : AscT (-1) (lvH l n) := (chkL_asc _ _ _ (lvH_ok hok hl)).t
def freeRes (qs : List Int) (cs : List Ct) (l : List Hd) (n s : Int) : List (Int × Int) × Int :=
  if chkH qs cs l ≠ 0 then ([], 1) else if n < 0 ∨ (qs.length : Int) ≤ n ∨ s < 1 ∨ 65536 < s then ([], 2) else (freeP (qs.getD n.toNat 0) s (lvH l n), 0)
end Go.Step
/- A slice's own end appended to its beginning; cells cleared. No conditions. -/
namespace Go.Eng
variable {C : Cx} {D : List Deferred} {R H : List PH} {L : Env} {K : List It}
variable {dst : Option Tmp} {ty : TypeId} {pos : String} {aft : Array Edge} {g : Option (Nat × Bool)}
theorem OwnS.cells_at {e : TypeId} {s n b cap : Nat} {xs : List Value} {ρ : PH} (h : OwnS e s (.slice (some ⟨b, 0, none⟩) n cap) n xs ρ) : ∃ cur, ρ = sng b (.cells cur e (0, 0)) ∧ n ≤ cap ∧ cap ≤ maxLen ∧ cur.size = cap * s ∧ cur.toList.take (n * s) = xs := by
  obtain ⟨_, ⟨h1, _⟩ | ⟨b', cap', cur, h1, rfl, h2, h3, h4, h5⟩⟩ := h
  · simp at h1
  · simp only [Value.slice.injEq, Option.some.injEq, Addr.mk.injEq, and_true, true_and] at h1
    obtain ⟨rfl, rfl⟩ := h1
    exact ⟨cur, rfl, h2, h3, h4, h5⟩
theorem EZ {x : Operand} {t e : TypeId} {s by_ : Nat} {z : Value} {b n cap m c2 : Nat} {xs : List Value} {ρ : PH} {H' : List PH}
    (hx : evalE L x = some (.slice (cutP (some ⟨b, 0, none⟩) cap n s) m c2)) (ht : elemP C.P t = some e) (hs : szP C.P e = some s) (hz : zeroP C.P e = some z) (hb : bytesP C.P e = some by_) (hzs : z.cells.size = s) (hz1 : ∀ u ∈ z.cells.toList, u.oneCell' = true)
    (hown : OwnS e s (.slice (some ⟨b, 0, none⟩) n cap) n xs ρ) (htk : Take ρ H H') (hm : 0 < m) (hnm : n + m ≤ cap) :
    Loud C R H L ⟨dst, .call ⟨.builtin .clear, #[x], #[t]⟩, ty, pos, aft, g⟩ (fun u H2 => u = .tuple #[] ∧ ∃ ρ', OwnS e s (.slice (some ⟨b, 0, none⟩) n cap) n xs ρ' ∧ H2 = ρ' :: H') := by
  refine ⟨fun a w hxx hsat next Q hnx => ?_⟩
  have hxl : xs.length = n * s := hown.1
  obtain ⟨cur, rfl, hnc, hcm, hcs, htk2⟩ := hown.cells_at
  obtain ⟨ti, hi, rfl, hiz, rfl⟩ := info_of hs hz hb
  have htu := und_elem ht
  have e1 := hxx x (by simp [Op.operands, Call.operands]) _ hx
  have hg : w.heap[b]? = some (.cells cur e (0, 0)) := hsat.own htk
  have hcut : cutP (some ⟨b, 0, none⟩) cap n ti.size = some ⟨b, n * ti.size, none⟩ := by
    unfold cutP
    rw [if_neg (by omega)]
    simp [addr_add]
  have hle3 : (n + m) * ti.size ≤ cap * ti.size := Nat.mul_le_mul_right _ hnm
  have hzl : (Builtin.zeroCells z.cells m).toList.length = m * ti.size := by rw [Array.length_toList, size_zeroCells, hzs]
  have hone : ∀ v ∈ (Builtin.zeroCells z.cells m).toList, v.oneCell' = true := by
    intro v hv
    simp only [Builtin.zeroCells, Array.toList_map, List.mem_map] at hv
    obtain ⟨q, hq, rfl⟩ := hv
    have h0 : 0 < z.cells.size := by
      rcases Nat.eq_zero_or_pos z.cells.size with h | h
      · simp [h] at hq
      · exact h
    have hlt : q % z.cells.size < z.cells.size := Nat.mod_lt _ h0
    rw [getElem!_pos z.cells _ hlt]
    exact hz1 _ (by simp)
  have hst := run_storeCells_at C.P b (n * ti.size) e (Builtin.zeroCells z.cells m).toList 0 cur w hg (by rw [hzl, hcs, Nat.add_zero, ← Nat.add_mul]; exact hle3) hone
  have hm0 : m ≠ 0 := by omega
  have hr : (Builtin.clear_ #[t] ty #[.slice (some ⟨b, n * ti.size, none⟩) m c2]).run C.P w = .ok (.tuple #[]) (w.setRow b (cur.toList.take (n * ti.size + 0) ++ (Builtin.zeroCells z.cells m).toList ++ cur.toList.drop (n * ti.size + 0 + (Builtin.zeroCells z.cells m).toList.length)).toArray) := by
    obtain ⟨m', rfl⟩ : ∃ m', m = m' + 1 := ⟨m - 1, by omega⟩
    simp [Builtin.clear_, run_underlying htu, zeroValue, typeInfo, hi, hiz]
    simpa using congrArg (fun r => r.andThen fun _ w' => Result.ok (Value.tuple #[]) w') hst
  rw [hcut] at e1
  generalize hnew : (cur.toList.take (n * ti.size + 0) ++ (Builtin.zeroCells z.cells m).toList ++ cur.toList.drop (n * ti.size + 0 + (Builtin.zeroCells z.cells m).toList.length)).toArray = new at hr
  have hexec : (execOp a.eval ⟨dst, .call ⟨.builtin .clear, #[x], #[t]⟩, ty, pos, aft, g⟩).run C.P w = .ok (.value (.tuple #[])) (w.setRow b new) := by
    simp [execOp, resolve, e1, invoke, builtin, hr]
  refine wpIn_value (by intro c; simp) hexec (hnx _ _ _ ⟨rfl, _, ⟨hxl, .inr ⟨b, cap, new, rfl, rfl, hnc, hcm, ?_, ?_⟩⟩, rfl⟩ (hsat.turn htk ?_ (setRow_heap w b cur _ e _ hg) (fun k hk => setRow_other w b k _ hk)))
  · rw [← hnew]
    simp only [List.size_toArray, List.length_append, List.length_take, List.length_drop, Array.length_toList] at hzl ⊢
    rw [Nat.add_mul] at hle3
    omega
  · rw [← hnew]
    simp only
    rw [Nat.add_zero, htk2, List.append_assoc, ← hxl]
    exact List.take_left
  · simp
end Go.Eng
/- Copies into an owned block; zeros appended to a beginning of an owned block that has no room; slices.overlaps of two blocks. No conditions. -/
namespace Go.Eng
variable {C : Cx} {D : List Deferred} {R H : List PH} {L : Env} {K : List It}
variable {dst : Option Tmp} {ty : TypeId} {pos : String} {aft : Array Edge} {g : Option (Nat × Bool)}
end Go.Eng
namespace Go.Eng
theorem rdN_sng {b : Nat} {vs : List Value} {t : TypeId} {fr : Nat × Nat} : RdN (sng b (.cells vs.toArray t fr)) b 0 vs := fun j v hv => by
  rw [rdc_sng, Nat.zero_add]
  simpa using hv
end Go.Eng
/- One more hold, holds released: plain. No conditions. -/
namespace Go.Step
open Go.Eng
theorem cmpI_cases (a b : Int) : (a < b ∧ cmpI a b = -1) ∨ (a = b ∧ cmpI a b = 0) ∨ (b < a ∧ cmpI a b = 1) := by
  unfold cmpI
  by_cases h : a < b
  · exact .inl ⟨h, by rw [if_pos h]⟩
  · by_cases h2 : b < a
    · exact .inr (.inr ⟨h2, by rw [if_neg h, if_pos h2]⟩)
    · exact .inr (.inl ⟨by omega, by rw [if_neg h, if_neg h2]⟩)
theorem orI_cmp (a b : Int) (l : List Int) : (a < b ∧ orI (cmpI a b :: l) = -1) ∨ (a = b ∧ orI (cmpI a b :: l) = orI l) ∨ (b < a ∧ orI (cmpI a b :: l) = 1) := by
  have e : orI (cmpI a b :: l) = if cmpI a b ≠ 0 then cmpI a b else orI l := rfl
  rcases cmpI_cases a b with ⟨h1, h2⟩ | ⟨h1, h2⟩ | ⟨h1, h2⟩
  · exact .inl ⟨h1, by rw [e, h2]; rfl⟩
  · exact .inr (.inl ⟨h1, by rw [e, h2]; rfl⟩)
  · exact .inr (.inr ⟨h1, by rw [e, h2]; rfl⟩)
end Go.Step
/- The parts of an interval, found one by one. No program in sight. No conditions. -/
namespace Go.Step
def nx (fr to : Int) : List Lv → Int
  | [] => to
  | l :: f => if fr < l.a then min l.a to else nx fr to f
end Go.Step
/- The greatest and the least value, where a function is low; the times of two functions, merged. No program in sight. No conditions. -/
namespace Go.Step
abbrev Pt := (Int × Int) × Int
/-! times, merged -/
structure TInv (f g : List Lv) (i k : Nat) (out : List Int) : Prop where
  sa : SA out
  mem : ∀ x, x ∈ out ↔ ∃ l ∈ f.take i ++ g.take k, l.a = x
  f : ∀ x ∈ out, ∀ l ∈ f.drop i, x ≤ l.a
  g : ∀ x ∈ out, ∀ l ∈ g.drop k, x ≤ l.a
theorem TInv.zero (f g : List Lv) : TInv f g 0 0 [] := ⟨by simp, by simp, by simp, by simp⟩
theorem TInv.done {f g : List Lv} {out : List Int} (h : TInv f g f.length g.length out) : out = tms f g := by
  obtain ⟨h1, h2⟩ := tms_sa f g
  refine SA.unique h.sa h1 (fun x => ?_)
  rw [h.mem, h2, List.take_length, List.take_length]
theorem SA.len : ∀ {out : List Int} {f : List Int}, SA out → (∀ x ∈ out, x ∈ f) → out.length ≤ f.length
  | [], _, _, _ => by simp
  | x :: out, f, h, hm => by
    have p := List.pairwise_cons.1 h
    have hx := hm x (by simp)
    have := SA.len (f := f.erase x) p.2 (fun y hy => by
      have h1 := hm y (by simp [hy])
      have h2 := p.1 y hy
      exact (List.mem_erase_of_ne (by omega)).2 h1)
    rw [List.length_erase_of_mem hx] at this
    have : 0 < f.length := List.length_pos_iff.2 (fun e => by subst e; simp at hx)
    simp; omega
theorem TInv.len {f g : List Lv} {i k : Nat} {out : List Int} (h : TInv f g i k out) : out.length ≤ f.length + g.length := by
  have := SA.len (f := (f ++ g).map (·.a)) h.sa (fun x hx => by
    obtain ⟨l, hl, rfl⟩ := (h.mem x).1 hx
    rw [List.mem_map]
    refine ⟨l, ?_, rfl⟩
    simp at hl ⊢
    rcases hl with hl | hl
    · exact .inl (List.mem_of_mem_take hl)
    · exact .inr (List.mem_of_mem_take hl))
  simpa using this
end Go.Step
namespace Go.Step
theorem AddR.err0 {f out : List Lv} {fr to d e : Int} (h : AddR f fr to d out e) (h0 : chkS f = 0) (hs : 0 ≤ fr ∧ fr ≤ to ∧ to ≤ 1099511627776) (hd : -2251799813685248 ≤ d ∧ d ≤ 2251799813685248) (hv : ∀ t, okV (val f t + if fr ≤ t ∧ t < to then d else 0)) (hl : f.length ≤ 998) : e = 0 := by
  rcases h with ⟨a, _⟩ | ⟨_, a, _⟩ | ⟨_, _, _, _, _, a⟩ | ⟨a, b, c, x⟩
  · exact absurd h0 a
  · omega
  · exact a
  · rcases x with ⟨⟨t, _, ht⟩, _⟩ | ⟨_, hbig, _⟩ | ⟨_, _, _, he⟩
    · have := hv t
      dsimp only at ht
      rw [bump_val fr to d t b.2.1] at ht
      exact absurd this ht
    · have h1 := comb_len (fun t => val f t + val (bump fr to d) t) (tms f (bump fr to d)) 0
      obtain ⟨hsa, hmem⟩ := tms_sa f (bump fr to d)
      have h2 := SA.len (f := (f ++ bump fr to d).map (·.a)) hsa (fun x hx => by
        obtain ⟨l, hl, rfl⟩ := (hmem x).1 hx
        exact List.mem_map.2 ⟨l, hl, rfl⟩)
      rw [List.length_map, List.length_append] at h2
      have : (bump fr to d).length = 2 := rfl
      omega
    · exact he
end Go.Step
namespace Go.Step
theorem CombP.len {F : Int → Int} {ts : List Int} {out : List Lv} {e : Int} (h : CombP F ts out e) : out.length ≤ 1000 := by
  rcases h with ⟨_, rfl, _⟩ | ⟨_, _, rfl, _⟩ | ⟨_, h, rfl, _⟩
  · simp
  · simp
  · exact h
theorem AddR.len {f out : List Lv} {fr to d e : Int} (h : AddR f fr to d out e) : out.length ≤ 1000 := by
  rcases h with ⟨_, rfl, _⟩ | ⟨_, _, rfl, _⟩ | ⟨a, _, _, _, rfl, _⟩ | ⟨_, _, _, hP⟩
  · simp
  · simp
  · exact (chkS_ok a).1
  · exact hP.len
theorem SumR.len {f g out : List Lv} {e : Int} (h : SumR f g out e) : out.length ≤ 1000 := by
  rcases h with ⟨_, rfl, _⟩ | ⟨_, _, hP⟩
  · simp
  · exact hP.len
end Go.Step
namespace Go.Step
theorem tms_len (f g : List Lv) : (tms f g).length ≤ f.length + g.length := by
  obtain ⟨hsa, hmem⟩ := tms_sa f g
  have h2 := SA.len (f := (f ++ g).map (·.a)) hsa (fun x hx => by
    obtain ⟨l, hl, rfl⟩ := (hmem x).1 hx
    exact List.mem_map.2 ⟨l, hl, rfl⟩)
  rw [List.length_map, List.length_append] at h2
  exact h2
theorem CombP.len2 {F : Int → Int} {ts : List Int} {out : List Lv} {e : Int} (h : CombP F ts out e) : out.length ≤ ts.length := by
  rcases h with ⟨_, rfl, _⟩ | ⟨_, _, rfl, _⟩ | ⟨_, _, rfl, _⟩
  · simp
  · simp
  · exact comb_len F ts 0
theorem AddR.len2 {f out : List Lv} {fr to d e : Int} (h : AddR f fr to d out e) : out.length ≤ f.length + 2 := by
  rcases h with ⟨_, rfl, _⟩ | ⟨_, _, rfl, _⟩ | ⟨a, _, _, _, rfl, _⟩ | ⟨_, _, _, hP⟩
  · simp
  · simp
  · omega
  · have := hP.len2
    have := tms_len f (bump fr to d)
    have : (bump fr to d).length = 2 := rfl
    omega
theorem okV_val {f : List Lv} (h : chkS f = 0) (t : Int) : okV (val f t) := by
  have hA := (chkS_ok h).2
  rcases vat_mem f 0 t with e | ⟨l, hl, e⟩
  · unfold okV val; rw [e]; omega
  · unfold okV val
    rw [e]
    have := hA.gt l hl
    omega
theorem AddR.cond {f out : List Lv} {fr to d : Int} (h : AddR f fr to d out 0) : (0 ≤ fr ∧ fr ≤ to ∧ to ≤ 1099511627776) ∧ -2251799813685248 ≤ d ∧ d ≤ 2251799813685248 := by
  rcases h with ⟨_, _, h⟩ | ⟨_, _, _, h⟩ | ⟨_, b, c, _⟩ | ⟨_, b, c, _⟩
  · simp at h
  · simp at h
  · exact ⟨b, c⟩
  · exact ⟨by omega, c⟩
theorem AddR.back {f p out : List Lv} {fr to d e : Int} (h : AddR f fr to d p 0) (hl : f.length ≤ 900) (h' : AddR p fr to (-d) out e) : e = 0 ∧ out = f := by
  obtain ⟨c1, c2, c3⟩ := h.cond
  obtain ⟨h1, h2, h3⟩ := h.ok
  have hlp := h.len2
  have hneg : ∀ t : Int, -1 ≤ t → val p t + (if fr ≤ t ∧ t < to then -d else 0) = val f t := fun t ht => by
    rw [h3 t ht]
    by_cases hc : fr ≤ t ∧ t < to
    · rw [if_pos hc, if_pos hc]; omega
    · rw [if_neg hc, if_neg hc]; omega
  have he : e = 0 := h'.err0 h2 c1 (by omega) (fun t => by
    by_cases ht : -1 ≤ t
    · rw [hneg t ht]; exact okV_val h1 t
    · rw [if_neg (by omega)]
      have := okV_val h2 t
      unfold okV at this ⊢
      omega) (by omega)
  subst he
  obtain ⟨_, k2, k3⟩ := h'.ok
  exact ⟨rfl, chkS_unique k2 h1 (fun t ht => by rw [k3 t ht, hneg t ht])⟩
theorem AddR.swap {f p q r s : List Lv} {a1 a2 a b1 b2 b : Int} (h1 : AddR f a1 a2 a p 0) (h2 : AddR p b1 b2 b q 0) (h3 : AddR f b1 b2 b r 0) (h4 : AddR r a1 a2 a s 0) : q = s := by
  obtain ⟨_, _, e1⟩ := h1.ok
  obtain ⟨_, k2, e2⟩ := h2.ok
  obtain ⟨_, _, e3⟩ := h3.ok
  obtain ⟨_, k4, e4⟩ := h4.ok
  exact chkS_unique k2 k4 (fun t ht => by rw [e2 t ht, e1 t ht, e4 t ht, e3 t ht]; omega)
theorem tms_comm (f g : List Lv) : tms f g = tms g f := by
  obtain ⟨a1, a2⟩ := tms_sa f g
  obtain ⟨b1, b2⟩ := tms_sa g f
  refine SA.unique a1 b1 (fun x => ?_)
  rw [a2, b2]
  constructor <;> (rintro ⟨l, hl, e⟩; exact ⟨l, by rw [List.mem_append] at hl ⊢; exact hl.symm, e⟩)
theorem SumR.comm {f g o : List Lv} {e : Int} (h : SumR f g o e) : SumR g f o e := by
  rcases h with ⟨a, b, c⟩ | ⟨a, b, c⟩
  · exact .inl ⟨a.symm, b, c⟩
  · refine .inr ⟨b, a, ?_⟩
    rw [tms_comm g f]
    have : (fun t => val g t + val f t) = (fun t => val f t + val g t) := funext (fun t => Int.add_comm _ _)
    rw [this]; exact c
theorem SumR.ok {f g o : List Lv} (h : SumR f g o 0) : chkS f = 0 ∧ chkS g = 0 ∧ chkS o = 0 ∧ ∀ t : Int, -1 ≤ t → val o t = val f t + val g t := by
  rcases h with ⟨_, _, h⟩ | ⟨a, b, c⟩
  · simp at h
  · obtain ⟨h1, h2⟩ := CombP.ok (op := (· + ·)) (chkS_ok a).2.t (chkS_ok b).2.t rfl c
    exact ⟨a, b, h1, h2⟩
end Go.Step
/- Parts cover an interval; greatest and least values are values. No program in sight. No conditions. -/
namespace Go.Step
end Go.Step
/- Where a function is low: intervals apart from each other. No program in sight. No conditions. -/
namespace Go.Step
def Chn (a : Int) : List Pt → Int → Prop
  | [], b => a = b
  | p :: ps, b => p.1.1 = a ∧ a < p.1.2 ∧ Chn p.1.2 ps b
def Cov (l : List (Int × Int)) (t : Int) : Prop := ∃ s ∈ l, s.1 ≤ t ∧ t < s.2
structure Apart (lo a : Int) (l : List (Int × Int)) : Prop where
  ok : ∀ s ∈ l, lo ≤ s.1 ∧ s.1 < s.2 ∧ s.2 ≤ a
  sep : l.Pairwise (fun s t => s.2 < t.1)
end Go.Step
/- The free spans of a node are exactly the times with room. No program in sight. No conditions. -/
namespace Go.Step
structure InvF (Q s : Int) (G : Int → Int) (T v : Int) (st : Int × List (Int × Int)) : Prop where
  ap : Apart 0 T st.2
  fr : st.1 = -1 ∨ (0 ≤ st.1 ∧ st.1 ≤ T ∧ ∀ u ∈ st.2, u.2 < st.1)
  cov : ∀ t, 0 ≤ t → t < T → ((Cov st.2 t ∨ (0 ≤ st.1 ∧ st.1 ≤ t)) ↔ G t + s ≤ Q)
  now : 0 ≤ st.1 ↔ v + s ≤ Q
theorem cov_snoc (l : List (Int × Int)) (x : Int × Int) (t : Int) : Cov (l ++ [x]) t ↔ Cov l t ∨ (x.1 ≤ t ∧ t < x.2) := by
  unfold Cov
  constructor
  · rintro ⟨s, hs, h⟩
    rcases List.mem_append.1 hs with hs | hs
    · exact .inl ⟨s, hs, h⟩
    · simp only [List.mem_singleton] at hs; subst hs; exact .inr h
  · rintro (⟨s, hs, h⟩ | h)
    · exact ⟨s, by simp [hs], h⟩
    · exact ⟨x, by simp, h⟩
theorem apart_snoc {T T' : Int} {l : List (Int × Int)} {x : Int × Int} (h : Apart 0 T l) (hT : T ≤ T') (hx : 0 ≤ x.1 ∧ x.1 < x.2 ∧ x.2 ≤ T') (hs : ∀ u ∈ l, u.2 < x.1) : Apart 0 T' (l ++ [x]) := by
  refine ⟨fun s hm => ?_, List.pairwise_append.2 ⟨h.sep, by simp, fun a ha b hb => ?_⟩⟩
  · rcases List.mem_append.1 hm with hm | hm
    · have := h.ok s hm; omega
    · simp only [List.mem_singleton] at hm; subst hm; exact hx
  · simp only [List.mem_singleton] at hb; subst hb; exact hs a ha
theorem apart_mono {T T' : Int} {l : List (Int × Int)} (h : Apart 0 T l) (hT : T ≤ T') : Apart 0 T' l := ⟨fun s hm => by have := h.ok s hm; omega, h.sep⟩
theorem InvF.step {Q s : Int} {G : Int → Int} {T v : Int} {st : Int × List (Int × Int)} (h : InvF Q s G T v st) {T' v' : Int} (h0 : 0 ≤ T) (hT : T < T' ∨ (T = T' ∧ st.2 = [])) (hG : ∀ t, T ≤ t → t < T' → G t = v) : InvF Q s G T' v' (frA Q s st T' v') := by
  have hle : T ≤ T' := by omega
  obtain ⟨fr, out⟩ := st
  obtain ⟨hap, hfr, hcov, hnow⟩ := h
  dsimp only at hap hfr hcov hnow hT
  unfold frA
  by_cases hc : Q - v' < s
  · rw [if_pos hc]
    dsimp only
    by_cases ho : 0 ≤ fr ∧ fr < T'
    · rw [if_pos ho]
      have hsep : ∀ u ∈ out, u.2 < fr := by rcases hfr with h | h; omega; exact h.2.2
      refine ⟨apart_snoc hap hle ⟨ho.1, ho.2, Int.le_refl _⟩ hsep, .inl rfl, fun t ht ht2 => ?_, by constructor <;> intro h <;> omega⟩
      dsimp only
      rw [cov_snoc]
      dsimp only
      by_cases c : t < T
      · have := hcov t ht c
        rw [← this]
        constructor
        · rintro ((h | h) | h)
          · exact .inl h
          · exact .inr ⟨ho.1, h.1⟩
          · omega
        · rintro (h | h)
          · exact .inl (.inl h)
          · exact .inl (.inr ⟨h.2, ht2⟩)
      · rw [hG t (by omega) ht2]
        have := hnow.1 ho.1
        constructor
        · intro _; exact this
        · intro _
          refine .inl (.inr ⟨?_, ht2⟩)
          rcases hfr with h | h <;> omega
    · rw [if_neg ho]
      refine ⟨apart_mono hap hle, .inl rfl, fun t ht ht2 => ?_, by constructor <;> intro h <;> dsimp only at * <;> omega⟩
      dsimp only
      by_cases c : t < T
      · rw [← hcov t ht c]
        constructor
        · rintro (h | h)
          · exact .inl h
          · omega
        · rintro (h | h)
          · exact .inl h
          · omega
      · rw [hG t (by omega) ht2]
        constructor
        · rintro (⟨u, hu, h⟩ | h)
          · have := hap.ok u hu; omega
          · omega
        · intro h
          have := hnow.2 h
          exact absurd ⟨this, by rcases hfr with k | k <;> omega⟩ ho
  · rw [if_neg hc]
    dsimp only
    by_cases ho : fr < 0
    · rw [if_pos ho]
      refine ⟨apart_mono hap hle, .inr ⟨by dsimp only; omega, Int.le_refl _, fun u hu => ?_⟩, fun t ht ht2 => ?_, by constructor <;> intro h <;> dsimp only at * <;> omega⟩
      · dsimp only at hu ⊢
        have := hap.ok u hu
        rcases hT with h | h
        · omega
        · rw [h.2] at hu; simp at hu
      · dsimp only
        by_cases c : t < T
        · rw [← hcov t ht c]
          constructor
          · rintro (h | h)
            · exact .inl h
            · omega
          · rintro (h | h)
            · exact .inl h
            · omega
        · rw [hG t (by omega) ht2]
          constructor
          · rintro (⟨u, hu, h⟩ | h)
            · have := hap.ok u hu; omega
            · omega
          · intro h
            have := hnow.2 h; omega
    · rw [if_neg ho]
      have hf : 0 ≤ fr ∧ fr ≤ T ∧ ∀ u ∈ out, u.2 < fr := by
        rcases hfr with h | h
        · omega
        · exact h
      refine ⟨apart_mono hap hle, .inr ⟨hf.1, by dsimp only; omega, hf.2.2⟩, fun t ht ht2 => ?_, by constructor <;> intro h <;> dsimp only at * <;> omega⟩
      dsimp only
      by_cases c : t < T
      · exact hcov t ht c
      · rw [hG t (by omega) ht2]
        have := hnow.1 hf.1
        constructor
        · intro _; exact this
        · intro _; exact .inr ⟨hf.1, by omega⟩
theorem InvF.fin {Q s : Int} {G : Int → Int} {T v : Int} {st : Int × List (Int × Int)} (h : InvF Q s G T v st) (h0 : 0 ≤ T) (hT : T ≤ 1099511627776) (hG : ∀ t, T ≤ t → t < 1099511627776 → G t = v) :
    Apart 0 1099511627776 (finA st) ∧ ∀ t, 0 ≤ t → t < 1099511627776 → (Cov (finA st) t ↔ G t + s ≤ Q) := by
  obtain ⟨fr, out⟩ := st
  obtain ⟨hap, hfr, hcov, hnow⟩ := h
  dsimp only at hap hfr hcov hnow
  unfold finA
  dsimp only
  by_cases ho : 0 ≤ fr ∧ fr < 1099511627776
  · rw [if_pos ho]
    have hf : fr ≤ T ∧ ∀ u ∈ out, u.2 < fr := by rcases hfr with h | h; omega; exact h.2
    refine ⟨apart_snoc hap hT ⟨ho.1, ho.2, Int.le_refl _⟩ hf.2, fun t ht ht2 => ?_⟩
    rw [cov_snoc]
    dsimp only
    by_cases c : t < T
    · rw [← hcov t ht c]
      constructor
      · rintro (h | h)
        · exact .inl h
        · exact .inr ⟨ho.1, h.1⟩
      · rintro (h | h)
        · exact .inl h
        · exact .inr ⟨h.2, ht2⟩
    · rw [hG t (by omega) ht2]
      have := hnow.1 ho.1
      constructor
      · intro _; exact this
      · intro _; exact .inr ⟨by omega, ht2⟩
  · rw [if_neg ho]
    refine ⟨apart_mono hap hT, fun t ht ht2 => ?_⟩
    by_cases c : t < T
    · rw [← hcov t ht c]
      constructor
      · exact fun h => .inl h
      · rintro (h | h)
        · exact h
        · omega
    · rw [hG t (by omega) ht2]
      constructor
      · rintro ⟨u, hu, h⟩
        have := hap.ok u hu; omega
      · intro h
        have := hnow.2 h
        exact absurd ⟨this, by rcases hfr with k | k <;> omega⟩ ho
theorem free_fold2 {Q s : Int} {G : Int → Int} : ∀ {f : List Lv} {p T v : Int} {st : Int × List (Int × Int)}, AscT p f → InvF Q s G T v st → 0 ≤ T → T ≤ 1099511627776 → (T = p ∨ (p = -1 ∧ T = 0 ∧ st.2 = [])) → (∀ t, T ≤ t → G t = vat v f t) →
    Apart 0 1099511627776 (finA (f.foldl (frL Q s) st)) ∧ ∀ t, 0 ≤ t → t < 1099511627776 → (Cov (finA (f.foldl (frL Q s) st)) t ↔ G t + s ≤ Q)
  | [], p, T, v, st, _, h, h0, h1, _, hG => h.fin h0 h1 (fun t ht _ => hG t ht)
  | x :: f, p, T, v, st, hA, h, h0, h1, hp, hG => by
    have hxa : p < x.a ∧ x.a ≤ 1099511627776 := hA.gt x (by simp)
    have hA2 : AscT x.a f := hA.2.2
    have hv1 : ∀ t, T ≤ t → t < x.a → G t = v := fun t ht h2 => by
      rw [hG t ht]
      exact vat_late (x :: f) v t (fun l hl => by simp at hl; subst hl; exact h2)
    rw [List.foldl_cons]
    by_cases c : x.a < 1099511627776
    · have e : frL Q s st x = frA Q s st x.a x.v := by unfold frL; rw [if_pos c]
      rw [e]
      refine free_fold2 (p := x.a) (T := x.a) (v := x.v) hA2 (h.step h0 (by rcases hp with h | ⟨h, k, m⟩; exact .inl (by omega); exact if c : T < x.a then .inl c else .inr ⟨by omega, m⟩) hv1) (by omega) hxa.2 (.inl rfl) (fun t ht => ?_)
      rw [hG t (by omega)]
      have := vat_append [x] f v t (by simpa using ht)
      rw [List.singleton_append] at this
      have e2 : vat v [x] t = x.v := vat_last [] x v t (by simp) ht
      rw [this, e2]
    · have e : frL Q s st x = st := by unfold frL; rw [if_neg c]
      have hf : f = [] := by
        cases f with
        | nil => rfl
        | cons y f => have := hA2.gt y (by simp); omega
      subst hf
      rw [e]
      exact h.fin h0 h1 (fun t ht h2 => hv1 t ht (by omega))
theorem free_exact {Q s : Int} {f : List Lv} (hA : AscT (-1) f) : Apart 0 1099511627776 (freeP Q s f) ∧ ∀ t, 0 ≤ t → t < 1099511627776 → (Cov (freeP Q s f) t ↔ val f t + s ≤ Q) := by
  unfold freeP
  refine free_fold2 (G := val f) (p := -1) (T := 0) (v := 0) hA ?_ (by omega) (by omega) ?_ (fun t _ => rfl)
  · unfold frA
    by_cases c : Q - 0 < s
    · rw [if_pos c]
      exact ⟨⟨by simp, by simp⟩, .inl rfl, fun t h1 h2 => by omega, by constructor <;> intro h <;> dsimp only at * <;> omega⟩
    · rw [if_neg c]
      exact ⟨⟨by simp, by simp⟩, .inr ⟨by simp, by simp, by simp⟩, fun t h1 h2 => by omega, by constructor <;> intro h <;> simp at * <;> omega⟩
  · refine .inr ⟨rfl, rfl, ?_⟩
    unfold frA
    by_cases c : Q - 0 < s
    · rw [if_pos c]; rfl
    · rw [if_neg c]
theorem stored_const {n a b : Int} (hab : a ≤ b) : ∀ {l : List Hd}, (∀ y ∈ tmH l n, ¬ (a < y ∧ y ≤ b)) → stored l n b = stored l n a
  | [], _ => rfl
  | h :: l, H => by
    have ih := stored_const hab (l := l) (fun y hy => H y (by
      obtain ⟨g, hg, k⟩ := mem_tmH.1 hy
      exact mem_tmH.2 ⟨g, by simp [hg], k⟩))
    simp only [stored, ih]
    by_cases hn : h.n = n
    · have h1 := H h.a (mem_tmH.2 ⟨h, by simp, hn, .inl rfl⟩)
      have h2 := H h.b (mem_tmH.2 ⟨h, by simp, hn, .inr rfl⟩)
      simp only [hn, true_and]
      split <;> split <;> omega
    · simp only [hn, false_and, if_false]
theorem lvH_val {l : List Hd} {n : Int} {nq : Nat} (hok : ∀ h ∈ l, okHd nq h) {t : Int} (ht : -1 ≤ t) : val (lvH l n) t = stored l n t := by
  obtain ⟨h1, h2⟩ := hts_sa l n
  have e0 : stored l n (-1) = 0 := stored_early (fun h hl hn => by have := (hok h hl).2.1; omega)
  unfold lvH val
  rw [vat_comb h1]
  have := tv_eq (F := stored l n) (p := -1) (t := t) h1 (fun x hx => by
    obtain ⟨h, hl, _, hx⟩ := mem_tmH.1 ((h2 x).1 hx)
    have := (hok h hl).2.1
    omega) ht (fun a b _ hab hy => stored_const hab (fun y hm => hy y ((h2 y).2 hm)))
  rw [e0] at this
  exact this
theorem free_holds {l : List Hd} {n Q s : Int} {nq : Nat} (hok : ∀ h ∈ l, okHd nq h) (hl : l.length ≤ 600) : Apart 0 1099511627776 (freeP Q s (lvH l n)) ∧ ∀ t, 0 ≤ t → t < 1099511627776 → (Cov (freeP Q s (lvH l n)) t ↔ stored l n t + s ≤ Q) := by
  obtain ⟨h1, h2⟩ := free_exact (Q := Q) (s := s) (lvH_asc (n := n) hok hl)
  refine ⟨h1, fun t ht ht2 => ?_⟩
  rw [h2 t ht ht2, lvH_val hok (by omega)]
end Go.Step
/- Laws on holds: some released, one more, in whatever order. No program in sight. No conditions. -/
namespace Go.Step
end Go.Step
/- Bookings of contacts; tables. No program in sight. No conditions. -/
namespace Go.Step
structure Bk where
  c : Int
  a : Int
  b : Int
  k : Int
deriving DecidableEq
def okBk (cs : List Ct) (x : Bk) : Prop := (0 ≤ x.c ∧ x.c < cs.length ∧ 0 ≤ x.k ∧ x.k ≤ 1152921504606846976) ∧ ∃ c, cs[x.c.toNat]? = some c ∧ c.s ≤ x.a ∧ x.a < x.b ∧ x.b ≤ c.e
def okBkB (cs : List Ct) (x : Bk) : Bool := decide (0 ≤ x.c ∧ x.c < cs.length ∧ 0 ≤ x.k ∧ x.k ≤ 1152921504606846976) && (match cs[x.c.toNat]? with
  | some c => decide (c.s ≤ x.a ∧ x.a < x.b ∧ x.b ≤ c.e)
  | none => false)
theorem okBkB_iff (cs : List Ct) (x : Bk) : okBkB cs x = true ↔ okBk cs x := by
  unfold okBkB okBk
  rw [Bool.and_eq_true, decide_eq_true_iff]
  cases h : cs[x.c.toNat]? with
  | none => simp
  | some c => simp
def cmpBk (x y : Bk) : Int := orI [cmpI x.c y.c, cmpI x.a y.a]
theorem cmpBk_lt (x y : Bk) : cmpBk x y < 0 ↔ x.c < y.c ∨ (x.c = y.c ∧ x.a < y.a) := by
  unfold cmpBk
  rcases orI_cmp x.c y.c [cmpI x.a y.a] with ⟨h1, e⟩ | ⟨h1, e⟩ | ⟨h1, e⟩
  · rw [e]; omega
  · rw [e]
    rcases orI_cmp x.a y.a [] with ⟨h2, e⟩ | ⟨h2, e⟩ | ⟨h2, e⟩
    · rw [e]; omega
    · rw [e]; simp only [orI]; omega
    · rw [e]; omega
  · rw [e]; omega
def bk2E (p x : Bk) : Int := if ¬ cmpBk p x < 0 then 9 else if p.c = x.c ∧ x.a < p.b then 14 else 0
def bkE (cs : List Ct) (l : List Bk) (i : Nat) : Int := match l[i]? with
  | some x => if okBkB cs x = false then 2 else if i = 0 then 0 else bk2E (l.getD (i - 1) x) x
  | none => 0
theorem bkE_at {cs : List Ct} {l : List Bk} {i : Nat} {x : Bk} (e : l[i]? = some x) : bkE cs l i = if okBkB cs x = false then 2 else if i = 0 then 0 else bk2E (l.getD (i - 1) x) x := by unfold bkE; rw [e]
def chkB (qs : List Int) (cs : List Ct) (l : List Bk) : Int :=
  if chkPl qs cs ≠ 0 then 1 else if 512 < l.length then 4 else firstE (bkE cs l) l.length
def chkT (qs : List Int) (cs : List Ct) (bs : List Bk) (hs : List Hd) : Int :=
  if chkPl qs cs ≠ 0 then chkPl qs cs else if chkB qs cs bs ≠ 0 then chkB qs cs bs else chkH qs cs hs
def busyL (l : List Bk) (c : Int) : List (Int × Int) := (l.filter (fun x => decide (x.c = c))).map (fun x => (x.a, x.b))
theorem busyL_next (c : Int) {l : List Bk} {k : Nat} {x : Bk} (h : l[k]? = some x) : busyL (l.take (k + 1)) c = busyL (l.take k) c ++ (if x.c = c then [(x.a, x.b)] else []) := by
  obtain ⟨hk, rfl⟩ := List.getElem?_eq_some_iff.1 h
  unfold busyL
  rw [List.take_succ_eq_append_getElem hk, List.filter_append, List.map_append]
  congr 1
  by_cases e : l[k].c = c
  · simp [e]
  · simp [e]
theorem busyL_len (l : List Bk) (c : Int) : (busyL l c).length ≤ l.length := by
  unfold busyL
  rw [List.length_map]
  exact List.length_filter_le _ _
def bookedB (l : List Bk) (c t : Int) : Bool := (busyL l c).any (fun x => decide (x.1 ≤ t) && decide (t < x.2))
theorem bkE_ok {cs : List Ct} {l : List Bk} (h : firstE (bkE cs l) l.length = 0) : ∀ x ∈ l, okBk cs x := fun x hx => by
  obtain ⟨i, hi, rfl⟩ := List.getElem_of_mem hx
  have h2 := firstE_zero h i hi
  rw [bkE_at (List.getElem?_eq_getElem hi)] at h2
  cases hc : okBkB cs l[i] with
  | true => exact (okBkB_iff _ _).1 hc
  | false => rw [if_pos hc] at h2; omega
theorem chkT_ok {qs : List Int} {cs : List Ct} {bs : List Bk} {hs : List Hd} (h : chkT qs cs bs hs = 0) : chkPl qs cs = 0 ∧ chkB qs cs bs = 0 ∧ chkH qs cs hs = 0 := by
  unfold chkT at h
  by_cases h1 : chkPl qs cs = 0
  · rw [if_neg (by simpa using h1)] at h
    by_cases h2 : chkB qs cs bs = 0
    · rw [if_neg (by simpa using h2)] at h
      exact ⟨h1, h2, h⟩
    · rw [if_pos h2] at h; exact absurd h h2
  · rw [if_pos h1] at h; exact absurd h h1
theorem chkB_ok {qs : List Int} {cs : List Ct} {bs : List Bk} (h : chkB qs cs bs = 0) : bs.length ≤ 512 ∧ firstE (bkE cs bs) bs.length = 0 := by
  unfold chkB at h
  by_cases h1 : chkPl qs cs = 0
  · rw [if_neg (by simpa using h1)] at h
    by_cases h2 : 512 < bs.length
    · rw [if_pos h2] at h; omega
    · rw [if_neg h2] at h; exact ⟨by omega, h⟩
  · rw [if_pos h1] at h; omega
end Go.Step
