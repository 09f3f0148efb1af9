/- Texts of this proof, one after the other; no conditions. -/
import Derived.Lib.SlicesCompact
import Derived.Sort.OwnSortedInts
import Derived.Sort.EveryDepth
import Derived.Lib.RowBridge
import Derived.Shelf.Slices.In.SortNone
import Derived.Test.YtijheemiknkleaaGreatDoorWB2
set_option linter.all false
/- What is wrong with a plan, of the program and of the reference. -/
namespace Go.Proofs.YtijheemiknkleaaGreatDoor
open Go.Eng Go.Step
set_option maxRecDepth 100000
set_option maxHeartbeats 4000000

theorem indexC_spec (ρ : PH) (Rs : List PH) (v fn : Value) (l : List Ct) (p : Ct → Bool) (hv : SlE encC 7 ρ v l) (hl : l.length ≤ 9223372036854775807) (hfn : ∀ (i : Nat) (x : Ct), l[i]? = some x → Ans Tryz.prog fn [.agg (encC x).toArray] Rs (fun r => r = .bool (p x))) :
  Ans Tryz.prog (fv 93) [v, fn] (ρ :: Rs) (fun r => (∃ (i : Nat) (x : Ct), l[i]? = some x ∧ p x = true ∧ (∀ (j : Nat) (y : Ct), j < i → l[j]? = some y → p y = false) ∧ r = int i) ∨ ((∀ x ∈ l, p x = false) ∧ r = int (-1))) := by
 obtain ⟨q, c, rfl, hr⟩ := hv.val encC_len
 refine spec_in (cap := []) Tryz.func93 rfl rfl Tryz.ntmps93 rfl envZ (fun N β => ?_)
 refine AB ?_
 refine AA ?_
 refine AD ?_
 refine AE ?_
 refine AB ?_
 refine AB ?_
 refine AA ?_
 refine AC ?_
 refine AY ?_
 refine AC ?_
 refine AE ?_
 refine AV ?_
 refine BM [0, 1, 7] (0 : Nat) (fun k => k ≤ l.length ∧ ∀ (i : Nat) (x : Ct), i < k → l[i]? = some x → p x = false) (fun k => [(8, int k)]) (fun _ => []) (fun k => l.length - k) pickZ ⟨by omega, fun i x h => by omega⟩ covZ selZ ?_
 rintro k ⟨hk, hI⟩
 by_cases hlt : k < l.length
 ·have hx := List.getElem?_eq_getElem hlt
  obtain ⟨b1, o1, rfl, hrd⟩ := hr k _ hx
  have hrd2 : RdN ρ b1 (o1 + k * 7) (encC l[k]) := hrd
  have hf := hfn k _ hx
  refine AB ?_
  refine AA ?_
  refine BI ?_
  refine AE ?_
  refine AB ?_
  refine AQ rfl ?_
  refine AL ?_
  refine AB ?_
  refine AV ?_
  refine AB ?_
  refine AA ?_
  refine AC ?_
  refine AD ?_
  refine AE ?_
  refine AB ?_
  refine AA ?_
  refine AC ?_
  refine AC ?_
  refine AC ?_
  refine A9 ?_
  refine AN ?_
  refine A3 hf rfl rfl (fun τ hτ => .inl (by simp [hτ])) rfl rfl ?_
  rintro _ rfl
  cases hp : p l[k] with
  | true =>
   refine AE ?_
   refine AQ rfl ?_
   refine AB ?_
   refine AA ?_
   refine AC ?_
   refine AD ?_
   refine AE ?_
   exact AI (res1 rfl rfl) rsubZ selZ ⟨rfl, .inl ⟨k, l[k], hx, hp, hI, rfl⟩⟩
  | false =>
   refine AE ?_
   refine AM rfl ?_
   refine AL ?_
   refine A8 ?_
   refine AA ?_
   refine BD ?_
   refine AC ?_
   refine AE ?_
   refine A5 (k + 1) ⟨by omega, fun i x hi hix => ?_⟩ (by omega) covZ selZ
   by_cases e : i = k
   ·subst e; rw [hx] at hix; injection hix with hix; rw [← hix]; exact hp
   ·exact hI i x (by omega) hix
 ·refine AB ?_
  refine AA ?_
  refine AZ ?_
  refine AE ?_
  refine AB ?_
  refine AM rfl ?_
  refine BE rfl ?_
  refine AB ?_
  refine AA ?_
  refine AD ?_
  refine AE ?_
  refine AI (res1 rfl rfl) rsubZ selZ ⟨rfl, .inr ⟨fun x hx => ?_, rfl⟩⟩
  obtain ⟨i, hi, rfl⟩ := List.getElem_of_mem hx
  exact hI i _ (by omega) (List.getElem?_eq_getElem hi)
theorem contC_spec (ρ : PH) (Rs : List PH) (v fn : Value) (l : List Ct) (p : Ct → Bool) (hv : SlE encC 7 ρ v l) (hl : l.length ≤ 9223372036854775807) (hfn : ∀ (i : Nat) (x : Ct), l[i]? = some x → Ans Tryz.prog fn [.agg (encC x).toArray] Rs (fun r => r = .bool (p x))) :
  Ans Tryz.prog (fv 44) [v, fn] (ρ :: Rs) (fun r => r = .bool (l.any p)) := by
 have hix := indexC_spec ρ Rs v fn l p hv hl hfn
 obtain ⟨q, c, rfl, hr⟩ := hv.val encC_len
 refine spec_in (cap := []) Tryz.func44 rfl rfl Tryz.ntmps44 rfl envZ (fun N β => ?_)
 refine AB ?_
 refine AA ?_
 refine AD ?_
 refine AE ?_
 refine AB ?_
 refine AA ?_
 refine AC ?_
 refine AC ?_
 refine A3 hix rfl rfl (fun τ hτ => .inl (List.mem_cons_of_mem _ hτ)) rfl rfl ?_
 rintro _ (⟨i, x, hi, hp, _, rfl⟩ | ⟨hall2, rfl⟩)
 ·have hfl : l.any p = true := List.any_eq_true.2 ⟨x, List.mem_of_getElem? hi, hp⟩
  refine CL ?_
  refine AD ?_
  refine AE ?_
  exact AI (res1 rfl rfl) rsubZ selZ ⟨rfl, by rw [hfl]⟩
 ·have hfl : l.any p = false := List.any_eq_false.2 (fun x hx => by rw [hall2 x hx]; simp)
  refine BN ?_
  refine AD ?_
  refine AE ?_
  exact AI (res1 rfl rfl) rsubZ selZ ⟨rfl, by rw [hfl]⟩

theorem SlE.pre {α : Type} {enc : α → List Value} {s : Nat} {ρ : PH} {p : Option Addr} {n c : Nat} {l : List α} (h : SlE enc s ρ (.slice p n c) l) (he : ∀ x, (enc x).length = s) {k : Nat} (hk : k ≤ l.length) : SlE enc s ρ (.slice (cutP p c 0 s) k c) (l.take k) := by
 have hlen : (l.take k).length = k := by rw [List.length_take]; omega
 have hfl : (l.take k).flatMap enc ++ (l.drop k).flatMap enc = l.flatMap enc := by rw [← List.flatMap_append, List.take_append_drop]
 have hll : ((l.take k).flatMap enc).length = k * s := by
  have := flat_len he (l.take k)
  rwa [hlen] at this
 unfold SlE
 rw [hlen]
 refine ⟨hll, ?_⟩
 by_cases h0 : k = 0
 ·subst h0; exact .inl ⟨rfl, _, _, rfl⟩
 ·obtain ⟨_, ⟨hn, _⟩ | ⟨b, o, c', e, hr⟩⟩ := h
  ·omega
  ·simp only [Value.slice.injEq] at e
   obtain ⟨rfl, rfl, rfl⟩ := e
   refine .inr ⟨b, o, c, ?_, fun j u hu => hr j u ?_⟩
   ·unfold cutP
    split
    ·rfl
    ·simp [Addr.add]
   ·rw [← hfl, List.getElem?_append_left (by have := (List.getElem?_eq_some_iff.1 hu).1; exact this)]
    exact hu
theorem planCheck1_spec (bt : Nat) (c d : Ct) : Ans Tryz.prog (.func (.func 45) #[] #[.pointer (some ⟨bt, 0, none⟩)]) [.agg (encC d).toArray] [sng bt (.cells #[int c.f, int c.t, int c.s, int c.e, int c.r, int c.g, int c.l] 33 (0, 0))] (fun r => r = .bool (ovl c d)) := by
 refine spec_in (cap := [.pointer (some ⟨bt, 0, none⟩)]) Tryz.func45 rfl rfl Tryz.ntmps45 rfl envZ (fun N β => ?_)
 have hb : RdN (sng bt (.cells #[int c.f, int c.t, int c.s, int c.e, int c.r, int c.g, int c.l] 33 (0, 0))) bt 0 [int c.f, int c.t, int c.s, int c.e, int c.r, int c.g, int c.l] := fun j u hu => by rw [rdc_sng, Nat.zero_add]; simpa using hu
 refine AB ?_
 refine AA ?_
 refine BQ ?_; rintro _ _ ⟨b, rfl, rfl⟩
 refine AD ?_
 refine AE ?_
 refine AB ?_
 refine AA ?_
 refine AN ?_
 refine AN ?_
 refine A3 (overlap_spec c d) rfl rfl rdZ rfl rfl ?_
 rintro _ rfl
 refine AD ?_
 refine AE ?_
 exact AI (res1 rfl rfl) rsubZ selZ ⟨rfl, rfl⟩
theorem quoE_at {qs : List Int} {i : Nat} {q : Int} (h : qs[i]? = some q) : quoE qs i = if q < 0 ∨ 1073741824 < q then 2 else 0 := by unfold quoE; rw [h]
theorem ctE_at {n : Nat} {cs : List Ct} {i : Nat} {c : Ct} (h : cs[i]? = some c) : ctE n cs i = if chkCt c ≠ 0 then chkCt c else if (n : Int) ≤ c.f ∨ (n : Int) ≤ c.t then 2 else if (cs.take i).any (ovl c) then 14 else 0 := by unfold ctE; rw [h]
abbrev CtAt (ρ : PH) (v : Value) (l : List Ct) : Prop := SlE encC 7 ρ v l
theorem ctRow {ρ : PH} {p : Option Addr} {l : List Ct} (h : RowsE encC 7 ρ p l) {i : Nat} {c : Ct} (hx : l[i]? = some c) :
  ∃ b o, p = some ⟨b, o, none⟩ ∧ RdN ρ b (o + i * 7) [int c.f, int c.t, int c.s, int c.e, int c.r, int c.g, int c.l] := h i c hx
set_option maxHeartbeats 16000000 in
theorem planCheck_spec (ρ τ : PH) (pq pc : Option Addr) (kq kc : Nat) (qs : List Int) (cs : List Ct) (hq : IntsAt ρ (.slice pq qs.length kq) qs) (hc : CtAt τ (.slice pc cs.length kc) cs) (hcap : cs.length ≤ kc) (lq : qs.length ≤ 9223372036854775807) (lc : cs.length ≤ 9223372036854775807) :
  Ans Tryz.prog (fv 17) [.agg #[.slice pq qs.length kq, .slice pc cs.length kc]] [ρ, τ] (fun r => r = int (chkPl qs cs)) := by
 have hc2 := hc
 obtain ⟨_, _, e, hrq⟩ := hq.val Eng.encI_len
 simp only [Value.slice.injEq] at e
 obtain ⟨rfl, _, rfl⟩ := e
 obtain ⟨_, _, e, hrc⟩ := hc.val encC_len
 simp only [Value.slice.injEq] at e
 obtain ⟨rfl, _, rfl⟩ := e
 refine spec_in (cap := []) Tryz.func17 rfl rfl Tryz.ntmps17 rfl envZ (fun N β => ?_)
 refine AB ?_
 refine AA ?_
 refine BF (BC rfl) rfl rfl rfl ?_
 rintro _ _ ⟨b1, rfl, rfl⟩
 refine AU (ρ := sng b1 _) takeZ ?_
 have c10 : rdc (sng b1 (.cells #[.slice pq qs.length kq, .slice pc cs.length kc] 25 (0, 0))) b1 0 = some (.slice pq qs.length kq) := by rw [rdc_sng]; rfl
 have c11 : rdc (sng b1 (.cells #[.slice pq qs.length kq, .slice pc cs.length kc] 25 (0, 0))) b1 1 = some (.slice pc cs.length kc) := by rw [rdc_sng]; rfl
 unfold chkPl
 by_cases hl1 : qs.length < 1
 ·rw [if_pos (.inl hl1)]
  refine AD ?_
  refine AE ?_
  refine AB ?_
  refine AA ?_
  refine AG ?_
  refine AF ?_
  refine AY ?_
  refine AD ?_
  refine AE ?_
  refine AB ?_
  refine AB ?_
  refine AA ?_
  refine AC ?_
  refine BI ?_
  refine AC ?_
  refine AJ rfl rfl rfl ?_
  refine AJ rfl rfl rfl ?_
  refine AT ?_
  refine AC ?_
  refine AJ rfl rfl rfl ?_
  refine AJ rfl rfl rfl ?_
  refine AJ rfl rfl rfl ?_
  refine AJ rfl rfl rfl ?_
  refine AT ?_
  refine AE ?_
  refine AQ rfl ?_
  refine AB ?_
  refine AA ?_
  refine AD ?_
  refine AE ?_
  exact AI (res1 rfl rfl) rsubZ selZ ⟨rfl, rfl⟩
 by_cases hl2 : 16 < qs.length
 ·rw [if_pos (.inr (.inl hl2))]
  refine AD ?_
  refine AE ?_
  refine AB ?_
  refine AA ?_
  refine AG ?_
  refine AF ?_
  refine AY ?_
  refine AD ?_
  refine AE ?_
  refine AB ?_
  refine AB ?_
  refine AA ?_
  refine AC ?_
  refine AZ ?_
  refine AC ?_
  refine AC ?_
  refine CH ?_
  refine AK ?_
  refine AC ?_
  refine AJ rfl rfl rfl ?_
  refine AJ rfl rfl rfl ?_
  refine AJ rfl rfl rfl ?_
  refine AJ rfl rfl rfl ?_
  refine AT ?_
  refine AE ?_
  refine AQ rfl ?_
  refine AB ?_
  refine AA ?_
  refine AD ?_
  refine AE ?_
  exact AI (res1 rfl rfl) rsubZ selZ ⟨rfl, rfl⟩
 by_cases hl3 : 64 < cs.length
 ·rw [if_pos (.inr (.inr hl3))]
  refine AD ?_
  refine AE ?_
  refine AB ?_
  refine AA ?_
  refine AG ?_
  refine AF ?_
  refine AY ?_
  refine AD ?_
  refine AE ?_
  refine AB ?_
  refine AB ?_
  refine AA ?_
  refine AC ?_
  refine AZ ?_
  refine AC ?_
  refine AC ?_
  refine BO ?_
  refine AK ?_
  refine AC ?_
  refine AG ?_
  refine AF ?_
  refine AY ?_
  refine CH ?_
  refine AK ?_
  refine AE ?_
  refine AQ rfl ?_
  refine AB ?_
  refine AA ?_
  refine AD ?_
  refine AE ?_
  exact AI (res1 rfl rfl) rsubZ selZ ⟨rfl, rfl⟩
 rw [if_neg (by omega)]
 refine AD ?_
 refine AE ?_
 refine AB ?_
 refine AA ?_
 refine AG ?_
 refine AF ?_
 refine AY ?_
 refine AD ?_
 refine AE ?_
 refine AB ?_
 refine AB ?_
 refine AA ?_
 refine AC ?_
 refine AZ ?_
 refine AC ?_
 refine AC ?_
 refine BO ?_
 refine AK ?_
 refine AC ?_
 refine AG ?_
 refine AF ?_
 refine AY ?_
 refine BO ?_
 refine AK ?_
 refine AE ?_
 refine AM rfl ?_
 refine AL ?_
 refine AB ?_
 refine AB ?_
 refine AA ?_
 refine AG ?_
 refine AF ?_
 refine AY ?_
 refine AC ?_
 refine AE ?_
 refine AV ?_
 refine BM [1, 3, 25, 26] (0 : Nat) (fun k => k ≤ qs.length ∧ firstE (quoE qs) k = 0) (fun k => [(27, int k)]) (fun _ => []) (fun k => qs.length - k) pickZ ⟨by omega, rfl⟩ covZ selZ ?_
 rintro k ⟨hk, hI⟩
 by_cases hlt : k < qs.length
 ·have hx := List.getElem?_eq_getElem hlt
  obtain ⟨b2, o2, rfl, g1⟩ := hrq.int hx
  have hE := quoE_at hx
  generalize qs[k] = x at g1 hE
  by_cases hbad : x < 0 ∨ 1073741824 < x
  ·rw [if_pos hbad] at hE
   have hh := firstE_hit hI (by rw [hE]; decide) _ hlt
   rw [hE] at hh
   rw [if_pos (by rw [hh]; decide), hh]
   by_cases hneg : x < 0
   ·refine AB ?_
    refine AA ?_
    refine BI ?_
    refine AE ?_
    refine AB ?_
    refine AQ rfl ?_
    refine AL ?_
    refine AB ?_
    refine AV ?_
    refine AB ?_
    refine AA ?_
    refine B9 ?_
    refine AF ?_
    refine AD ?_
    refine AE ?_
    refine AB ?_
    refine AA ?_
    refine AC ?_
    refine BI ?_
    refine AC ?_
    refine AJ rfl rfl rfl ?_
    refine AJ rfl rfl rfl ?_
    refine AT ?_
    refine AE ?_
    refine AQ rfl ?_
    refine AB ?_
    refine AA ?_
    refine AD ?_
    refine AE ?_
    exact AI (res1 rfl rfl) rsubZ selZ ⟨rfl, rfl⟩
   ·refine AB ?_
    refine AA ?_
    refine BI ?_
    refine AE ?_
    refine AB ?_
    refine AQ rfl ?_
    refine AL ?_
    refine AB ?_
    refine AV ?_
    refine AB ?_
    refine AA ?_
    refine B9 ?_
    refine AF ?_
    refine AD ?_
    refine AE ?_
    refine AB ?_
    refine AA ?_
    refine AC ?_
    refine AZ ?_
    refine AC ?_
    refine AC ?_
    refine CH ?_
    refine AK ?_
    refine AE ?_
    refine AQ rfl ?_
    refine AB ?_
    refine AA ?_
    refine AD ?_
    refine AE ?_
    exact AI (res1 rfl rfl) rsubZ selZ ⟨rfl, rfl⟩
  ·rw [if_neg hbad] at hE
   refine AB ?_
   refine AA ?_
   refine BI ?_
   refine AE ?_
   refine AB ?_
   refine AQ rfl ?_
   refine AL ?_
   refine AB ?_
   refine AV ?_
   refine AB ?_
   refine AA ?_
   refine B9 ?_
   refine AF ?_
   refine AD ?_
   refine AE ?_
   refine AB ?_
   refine AA ?_
   refine AC ?_
   refine AZ ?_
   refine AC ?_
   refine AC ?_
   refine BO ?_
   refine AK ?_
   refine AE ?_
   refine AM rfl ?_
   refine AL ?_
   refine A8 ?_
   refine AA ?_
   refine BD ?_
   refine AC ?_
   refine AE ?_
   exact A5 (k + 1) ⟨by omega, firstE_ok hI hE⟩ (by omega) covZ selZ
 have hke : k = qs.length := by omega
 subst hke
 rw [if_neg (by rw [hI]; simp)]
 refine AB ?_
 refine AA ?_
 refine AZ ?_
 refine AE ?_
 refine AB ?_
 refine AM rfl ?_
 refine BE rfl ?_
 refine AB ?_
 refine AB ?_
 refine AA ?_
 refine AG ?_
 refine AF ?_
 refine AY ?_
 refine AC ?_
 refine AE ?_
 refine AV ?_
 refine BM [1, 3, 39, 40] (0 : Nat) (fun k => k ≤ cs.length ∧ firstE (ctE qs.length cs) k = 0) (fun k => [(41, int k)]) (fun _ => []) (fun k => cs.length - k) pickZ ⟨by omega, rfl⟩ covZ selZ ?_
 clear hI hk hlt
 rintro k ⟨hk, hI⟩
 by_cases hlt : k < cs.length
 ·have hx := List.getElem?_eq_getElem hlt
  obtain ⟨b2, o2, rfl, hrd⟩ := ctRow hrc hx
  have hE := ctE_at (n := qs.length) hx
  generalize cs[k] = c at hrd hE
  refine AB ?_
  refine AA ?_
  refine BI ?_
  refine AE ?_
  refine AB ?_
  refine AQ rfl ?_
  refine AL ?_
  refine AB ?_
  refine AV ?_
  refine AB ?_
  refine AA ?_
  refine AC ?_
  refine A9 ?_
  refine AN ?_
  refine A4 ?_; rintro _ _ ⟨b, rfl, rfl⟩
  refine AD ?_
  refine A2 ?_; rintro _ _ ⟨rfl, rfl⟩
  refine AE ?_
  refine AB ?_
  refine AB ?_
  refine AA ?_
  refine AN ?_
  revert b; intro b7
  skip
  refine A3 (ctCheck_spec c) rfl rfl rdZ rfl rfl ?_
  rintro _ rfl
  by_cases h0 : chkCt c = 0
  rotate_left
  ·rw [if_pos h0] at hE
   have hh := firstE_hit hI (by rw [hE]; exact h0) _ hlt
   rw [hh, hE]
   generalize chkCt c = y at h0
   refine AD ?_
   refine AE ?_
   refine AB ?_
   refine AA ?_
   refine AC ?_
   refine CR ?_
   refine AE ?_
   refine AQ rfl ?_
   refine AB ?_
   refine AA ?_
   refine AC ?_
   refine AD ?_
   refine AE ?_
   exact AI (res1 rfl rfl) rsubZ selZ ⟨rfl, rfl⟩
  rw [if_neg (by omega)] at hE
  by_cases hfar : (qs.length : Int) ≤ c.f ∨ (qs.length : Int) ≤ c.t
  ·rw [if_pos hfar] at hE
   have hh := firstE_hit hI (by rw [hE]; decide) _ hlt
   rw [hh, hE]
   by_cases hf1 : (qs.length : Int) ≤ c.f
   ·refine AD ?_
    refine AE ?_
    refine AB ?_
    refine AA ?_
    refine AC ?_
    refine BG ?_
    refine AE ?_
    refine AM rfl ?_
    refine AL ?_
    refine AB ?_
    refine AB ?_
    refine AA ?_
    refine AG ?_
    refine AF ?_
    refine AC ?_
    refine CL ?_
    refine AC ?_
    refine AJ rfl rfl rfl ?_
    refine AJ rfl rfl rfl ?_
    refine AJ rfl rfl rfl ?_
    refine AJ rfl rfl rfl ?_
    refine AT ?_
    refine AE ?_
    refine AQ rfl ?_
    refine AB ?_
    refine AA ?_
    refine AD ?_
    refine AE ?_
    exact AI (res1 rfl rfl) rsubZ selZ ⟨rfl, rfl⟩
   ·refine AD ?_
    refine AE ?_
    refine AB ?_
    refine AA ?_
    refine AC ?_
    refine BG ?_
    refine AE ?_
    refine AM rfl ?_
    refine AL ?_
    refine AB ?_
    refine AB ?_
    refine AA ?_
    refine AG ?_
    refine AF ?_
    refine AC ?_
    refine BN ?_
    refine AC ?_
    refine AG ?_
    refine AF ?_
    refine AC ?_
    refine CL ?_
    refine AK ?_
    refine AE ?_
    refine AQ rfl ?_
    refine AB ?_
    refine AA ?_
    refine AD ?_
    refine AE ?_
    exact AI (res1 rfl rfl) rsubZ selZ ⟨rfl, rfl⟩
  rw [if_neg hfar] at hE
  refine AD ?_
  refine AE ?_
  refine AB ?_
  refine AA ?_
  refine AC ?_
  refine BG ?_
  refine AE ?_
  refine AM rfl ?_
  refine AL ?_
  refine AB ?_
  refine AB ?_
  refine AA ?_
  refine AG ?_
  refine AF ?_
  refine AC ?_
  refine BN ?_
  refine AC ?_
  refine AG ?_
  refine AF ?_
  refine AC ?_
  refine BN ?_
  refine AK ?_
  refine AE ?_
  refine AM rfl ?_
  refine AL ?_
  refine AB ?_
  refine AA ?_
  refine AG ?_
  refine AF ?_
  refine AC ?_
  refine D5 ?_
  refine BX ?_
  refine A3 (contC_spec τ [sng b7 (.cells #[int c.f, int c.t, int c.s, int c.e, int c.r, int c.g, int c.l] 33 (0, 0))] _ _ (cs.take k) (ovl c) (SlE.pre hc2 encC_len hk) (by rw [List.length_take]; omega) (fun i x _ => planCheck1_spec b7 c x)) rfl rfl rdZ rfl rfl ?_
  rintro _ rfl
  cases ho : (cs.take k).any (ovl c) with
  | true =>
   rw [ho, if_pos rfl] at hE
   have hh := firstE_hit hI (by rw [hE]; decide) _ hlt
   rw [hh, hE]
   refine AE ?_
   refine AQ rfl ?_
   refine AB ?_
   refine AA ?_
   refine AD ?_
   refine AE ?_
   exact AI (res1 rfl rfl) rsubZ selZ ⟨rfl, rfl⟩
  | false =>
   rw [ho, if_neg (by simp)] at hE
   refine AE ?_
   refine AM rfl ?_
   refine AL ?_
   refine A8 ?_
   refine AA ?_
   refine BD ?_
   refine AC ?_
   refine AE ?_
   exact A5 (k + 1) ⟨by omega, firstE_ok hI hE⟩ (by omega) covZ selZ
 have hke : k = cs.length := by omega
 subst hke
 rw [hI]
 refine AB ?_
 refine AA ?_
 refine AZ ?_
 refine AE ?_
 refine AB ?_
 refine AM rfl ?_
 refine BE rfl ?_
 refine AB ?_
 refine AA ?_
 refine AD ?_
 refine AE ?_
 exact AI (res1 rfl rfl) rsubZ selZ ⟨rfl, rfl⟩
set_option maxHeartbeats 16000000 in
theorem refPlanCheck_spec (ρ τ : PH) (pq pc : Option Addr) (kq kc : Nat) (qs : List Int) (cs : List Ct) (hq : IntsAt ρ (.slice pq qs.length kq) qs) (hc : CtAt τ (.slice pc cs.length kc) cs) (lq : qs.length ≤ 9223372036854775807) (lc : cs.length ≤ 9223372036854775807) :
  Ans Tryz.prog (fv 28) [.agg #[.slice pq qs.length kq, .slice pc cs.length kc]] [ρ, τ] (fun r => r = int (chkPl qs cs)) := by
 obtain ⟨_, _, e, hrq⟩ := hq.val Eng.encI_len
 simp only [Value.slice.injEq] at e
 obtain ⟨rfl, _, rfl⟩ := e
 obtain ⟨_, _, e, hrc⟩ := hc.val encC_len
 simp only [Value.slice.injEq] at e
 obtain ⟨rfl, _, rfl⟩ := e
 refine spec_in (cap := []) Tryz.func28 rfl rfl Tryz.ntmps28 rfl envZ (fun N β => ?_)
 refine AB ?_
 refine AA ?_
 refine BF (BC rfl) rfl rfl rfl ?_
 rintro _ _ ⟨b1, rfl, rfl⟩
 refine AU (ρ := sng b1 _) takeZ ?_
 have c10 : rdc (sng b1 (.cells #[.slice pq qs.length kq, .slice pc cs.length kc] 25 (0, 0))) b1 0 = some (.slice pq qs.length kq) := by rw [rdc_sng]; rfl
 have c11 : rdc (sng b1 (.cells #[.slice pq qs.length kq, .slice pc cs.length kc] 25 (0, 0))) b1 1 = some (.slice pc cs.length kc) := by rw [rdc_sng]; rfl
 unfold chkPl
 by_cases hl1 : qs.length < 1
 ·rw [if_pos (.inl hl1)]
  refine AD ?_
  refine AE ?_
  refine AB ?_
  refine AB ?_
  refine AA ?_
  refine AG ?_
  refine AF ?_
  refine AY ?_
  refine BI ?_
  refine AC ?_
  refine AJ rfl rfl rfl ?_
  refine AJ rfl rfl rfl ?_
  refine AJ rfl rfl rfl ?_
  refine AJ rfl rfl rfl ?_
  refine AT ?_
  refine AC ?_
  refine AJ rfl rfl rfl ?_
  refine AJ rfl rfl rfl ?_
  refine AJ rfl rfl rfl ?_
  refine AJ rfl rfl rfl ?_
  refine AT ?_
  refine AE ?_
  refine AQ rfl ?_
  refine AB ?_
  refine AA ?_
  refine AD ?_
  refine AE ?_
  exact AI (res1 rfl rfl) rsubZ selZ ⟨rfl, rfl⟩
 by_cases hl2 : 16 < qs.length
 ·rw [if_pos (.inr (.inl hl2))]
  refine AD ?_
  refine AE ?_
  refine AB ?_
  refine AB ?_
  refine AA ?_
  refine AG ?_
  refine AF ?_
  refine AY ?_
  refine AZ ?_
  refine AC ?_
  refine AG ?_
  refine AF ?_
  refine AY ?_
  refine CH ?_
  refine AK ?_
  refine AC ?_
  refine AJ rfl rfl rfl ?_
  refine AJ rfl rfl rfl ?_
  refine AJ rfl rfl rfl ?_
  refine AJ rfl rfl rfl ?_
  refine AT ?_
  refine AE ?_
  refine AQ rfl ?_
  refine AB ?_
  refine AA ?_
  refine AD ?_
  refine AE ?_
  exact AI (res1 rfl rfl) rsubZ selZ ⟨rfl, rfl⟩
 by_cases hl3 : 64 < cs.length
 ·rw [if_pos (.inr (.inr hl3))]
  refine AD ?_
  refine AE ?_
  refine AB ?_
  refine AB ?_
  refine AA ?_
  refine AG ?_
  refine AF ?_
  refine AY ?_
  refine AZ ?_
  refine AC ?_
  refine AG ?_
  refine AF ?_
  refine AY ?_
  refine BO ?_
  refine AK ?_
  refine AC ?_
  refine AG ?_
  refine AF ?_
  refine AY ?_
  refine CH ?_
  refine AK ?_
  refine AE ?_
  refine AQ rfl ?_
  refine AB ?_
  refine AA ?_
  refine AD ?_
  refine AE ?_
  exact AI (res1 rfl rfl) rsubZ selZ ⟨rfl, rfl⟩
 rw [if_neg (by omega)]
 refine AD ?_
 refine AE ?_
 refine AB ?_
 refine AB ?_
 refine AA ?_
 refine AG ?_
 refine AF ?_
 refine AY ?_
 refine AZ ?_
 refine AC ?_
 refine AG ?_
 refine AF ?_
 refine AY ?_
 refine BO ?_
 refine AK ?_
 refine AC ?_
 refine AG ?_
 refine AF ?_
 refine AY ?_
 refine BO ?_
 refine AK ?_
 refine AE ?_
 refine AM rfl ?_
 refine AL ?_
 refine AB ?_
 refine AB ?_
 refine AA ?_
 refine AD ?_
 refine AE ?_
 refine AV ?_
 refine BM [1] (0 : Nat) (fun k => k ≤ qs.length ∧ firstE (quoE qs) k = 0) (fun k => [(3, int k)]) (fun _ => []) (fun k => qs.length - k) pickZ ⟨by omega, rfl⟩ covZ selZ ?_
 rintro k ⟨hk, hI⟩
 by_cases hlt : k < qs.length
 ·have hx := List.getElem?_eq_getElem hlt
  obtain ⟨b2, o2, rfl, g1⟩ := hrq.int hx
  have hE := quoE_at hx
  generalize qs[k] = x at g1 hE
  by_cases hbad : x < 0 ∨ 1073741824 < x
  ·rw [if_pos hbad] at hE
   have hh := firstE_hit hI (by rw [hE]; decide) _ hlt
   rw [hE] at hh
   rw [if_pos (by rw [hh]; decide), hh]
   by_cases hneg : x < 0
   ·refine AB ?_
    refine AB ?_
    refine AA ?_
    refine AC ?_
    refine AG ?_
    refine AF ?_
    refine AY ?_
    refine BI ?_
    refine AE ?_
    refine AQ rfl ?_
    refine AL ?_
    refine AB ?_
    refine AV ?_
    refine AB ?_
    refine AA ?_
    refine AG ?_
    refine AF ?_
    refine AC ?_
    refine B9 ?_
    refine AF ?_
    refine BI ?_
    refine AC ?_
    refine AJ rfl rfl rfl ?_
    refine AJ rfl rfl rfl ?_
    refine AJ rfl rfl rfl ?_
    refine AJ rfl rfl rfl ?_
    refine AJ rfl rfl rfl ?_
    refine AJ rfl rfl rfl ?_
    refine AT ?_
    refine AE ?_
    refine AQ rfl ?_
    refine AB ?_
    refine AA ?_
    refine AD ?_
    refine AE ?_
    exact AI (res1 rfl rfl) rsubZ selZ ⟨rfl, rfl⟩
   ·refine AB ?_
    refine AB ?_
    refine AA ?_
    refine AC ?_
    refine AG ?_
    refine AF ?_
    refine AY ?_
    refine BI ?_
    refine AE ?_
    refine AQ rfl ?_
    refine AL ?_
    refine AB ?_
    refine AV ?_
    refine AB ?_
    refine AA ?_
    refine AG ?_
    refine AF ?_
    refine AC ?_
    refine B9 ?_
    refine AF ?_
    refine AZ ?_
    refine AC ?_
    refine AG ?_
    refine AF ?_
    refine AC ?_
    refine B9 ?_
    refine AF ?_
    refine CH ?_
    refine AK ?_
    refine AE ?_
    refine AQ rfl ?_
    refine AB ?_
    refine AA ?_
    refine AD ?_
    refine AE ?_
    exact AI (res1 rfl rfl) rsubZ selZ ⟨rfl, rfl⟩
  ·rw [if_neg hbad] at hE
   refine AB ?_
   refine AB ?_
   refine AA ?_
   refine AC ?_
   refine AG ?_
   refine AF ?_
   refine AY ?_
   refine BI ?_
   refine AE ?_
   refine AQ rfl ?_
   refine AL ?_
   refine AB ?_
   refine AV ?_
   refine AB ?_
   refine AA ?_
   refine AG ?_
   refine AF ?_
   refine AC ?_
   refine B9 ?_
   refine AF ?_
   refine AZ ?_
   refine AC ?_
   refine AG ?_
   refine AF ?_
   refine AC ?_
   refine B9 ?_
   refine AF ?_
   refine BO ?_
   refine AK ?_
   refine AE ?_
   refine AM rfl ?_
   refine AL ?_
   refine A8 ?_
   refine AA ?_
   refine AC ?_
   refine BD ?_
   refine AD ?_
   refine AE ?_
   exact A5 (k + 1) ⟨by omega, firstE_ok hI hE⟩ (by omega) covZ selZ
 have hke : k = qs.length := by omega
 subst hke
 rw [if_neg (by rw [hI]; simp)]
 refine AB ?_
 refine AB ?_
 refine AA ?_
 refine AC ?_
 refine AG ?_
 refine AF ?_
 refine AY ?_
 refine AZ ?_
 refine AE ?_
 refine AM rfl ?_
 refine BE rfl ?_
 refine AB ?_
 refine AB ?_
 refine AA ?_
 refine AD ?_
 refine AE ?_
 refine AV ?_
 refine BM [1] (0 : Nat) (fun k => k ≤ cs.length ∧ firstE (ctE qs.length cs) k = 0) (fun k => [(4, int k)]) (fun _ => []) (fun k => cs.length - k) pickZ ⟨by omega, rfl⟩ covZ selZ ?_
 clear hI hk hlt
 rintro k ⟨hk, hI⟩
 by_cases hlt : k < cs.length
 ·have hx := List.getElem?_eq_getElem hlt
  obtain ⟨b2, o2, rfl, hrd⟩ := ctRow hrc hx
  have hE := ctE_at (n := qs.length) hx
  generalize cs[k] = c at hrd hE
  refine AB ?_
  refine AB ?_
  refine AA ?_
  refine AC ?_
  refine AG ?_
  refine AF ?_
  refine AY ?_
  refine BI ?_
  refine AE ?_
  refine AQ rfl ?_
  refine AL ?_
  refine AB ?_
  refine AV ?_
  refine AB ?_
  refine AA ?_
  refine AG ?_
  refine AF ?_
  refine AC ?_
  refine A9 ?_
  refine AN ?_
  refine A4 ?_; rintro _ _ ⟨b, rfl, rfl⟩
  refine A2 ?_; rintro _ _ ⟨rfl, rfl⟩
  refine AE ?_
  refine AB ?_
  refine AB ?_
  refine AA ?_
  refine AN ?_
  revert b; intro b7
  skip
  refine A3 (refCtCheck_spec c) rfl rfl rdZ rfl rfl ?_
  rintro _ rfl
  by_cases h0 : chkCt c = 0
  rotate_left
  ·rw [if_pos h0] at hE
   have hh := firstE_hit hI (by rw [hE]; exact h0) _ hlt
   rw [hh, hE]
   generalize chkCt c = y at h0
   refine AD ?_
   refine AE ?_
   refine AB ?_
   refine AA ?_
   refine AC ?_
   refine CR ?_
   refine AE ?_
   refine AQ rfl ?_
   refine AB ?_
   refine AA ?_
   refine AC ?_
   refine AD ?_
   refine AE ?_
   exact AI (res1 rfl rfl) rsubZ selZ ⟨rfl, rfl⟩
  rw [if_neg (by omega)] at hE
  by_cases hfar : (qs.length : Int) ≤ c.f ∨ (qs.length : Int) ≤ c.t
  ·rw [if_pos hfar] at hE
   have hh := firstE_hit hI (by rw [hE]; decide) _ hlt
   rw [hh, hE]
   by_cases hf1 : (qs.length : Int) ≤ c.f
   ·refine AD ?_
    refine AE ?_
    refine AB ?_
    refine AA ?_
    refine AC ?_
    refine BG ?_
    refine AE ?_
    refine AM rfl ?_
    refine AL ?_
    refine AB ?_
    refine AB ?_
    refine AA ?_
    refine AG ?_
    refine AF ?_
    refine AG ?_
    refine AF ?_
    refine AY ?_
    refine CL ?_
    refine AC ?_
    refine AJ rfl rfl rfl ?_
    refine AJ rfl rfl rfl ?_
    refine AJ rfl rfl rfl ?_
    refine AJ rfl rfl rfl ?_
    refine AJ rfl rfl rfl ?_
    refine AJ rfl rfl rfl ?_
    refine AT ?_
    refine AE ?_
    refine AQ rfl ?_
    refine AB ?_
    refine AA ?_
    refine AD ?_
    refine AE ?_
    exact AI (res1 rfl rfl) rsubZ selZ ⟨rfl, rfl⟩
   ·refine AD ?_
    refine AE ?_
    refine AB ?_
    refine AA ?_
    refine AC ?_
    refine BG ?_
    refine AE ?_
    refine AM rfl ?_
    refine AL ?_
    refine AB ?_
    refine AB ?_
    refine AA ?_
    refine AG ?_
    refine AF ?_
    refine AG ?_
    refine AF ?_
    refine AY ?_
    refine BN ?_
    refine AC ?_
    refine AG ?_
    refine AF ?_
    refine AG ?_
    refine AF ?_
    refine AY ?_
    refine CL ?_
    refine AK ?_
    refine AE ?_
    refine AQ rfl ?_
    refine AB ?_
    refine AA ?_
    refine AD ?_
    refine AE ?_
    exact AI (res1 rfl rfl) rsubZ selZ ⟨rfl, rfl⟩
  rw [if_neg hfar] at hE
  refine AD ?_
  refine AE ?_
  refine AB ?_
  refine AA ?_
  refine AC ?_
  refine BG ?_
  refine AE ?_
  refine AM rfl ?_
  refine AL ?_
  refine AB ?_
  refine AB ?_
  refine AA ?_
  refine AG ?_
  refine AF ?_
  refine AG ?_
  refine AF ?_
  refine AY ?_
  refine BN ?_
  refine AC ?_
  refine AG ?_
  refine AF ?_
  refine AG ?_
  refine AF ?_
  refine AY ?_
  refine BN ?_
  refine AK ?_
  refine AE ?_
  refine AM rfl ?_
  refine AL ?_
  refine AB ?_
  refine AA ?_
  refine AD ?_
  refine AE ?_
  refine AV ?_
  refine BM [1, 4, 5] (0 : Nat) (fun j => j ≤ k ∧ (cs.take j).any (ovl c) = false) (fun j => [(7, int j)]) (fun _ => [sng b7 (.cells #[int c.f, int c.t, int c.s, int c.e, int c.r, int c.g, int c.l] 33 (0, 0))]) (fun j => k - j) pickZ ⟨by omega, by simp⟩ covZ selZ ?_
  rintro j ⟨hj, hJ⟩
  by_cases hjk : j < k
  ·have hjl : j < cs.length := by omega
   have hx2 := List.getElem?_eq_getElem hjl
   obtain ⟨_, _, e, hrd2⟩ := ctRow hrc hx2
   simp only [Option.some.injEq, Addr.mk.injEq, and_true] at e
   obtain ⟨rfl, rfl⟩ := e
   have hnext : (cs.take (j + 1)).any (ovl c) = ((cs.take j).any (ovl c) || ovl c cs[j]) := by rw [List.take_succ_eq_append_getElem hjl, List.any_append]; simp
   rw [hJ, Bool.false_or, ovl_comm] at hnext
   generalize hd : cs[j] = d at hrd2 hnext
   have ho := refOverlap_spec d c
   refine AB ?_
   refine AB ?_
   refine AA ?_
   refine AC ?_
   refine AC ?_
   refine BI ?_
   refine AE ?_
   refine AQ rfl ?_
   refine AL ?_
   refine AB ?_
   refine AV ?_
   refine AB ?_
   refine BA (.q 0 (.q 1 (.q 2 (.q 3 (.q 4 (.q 5 (.l 6 .e .nil))))))) [sng b7 _] rfl (by kernel_rfl) selZ ?_
   refine AW ?_
   refine AP ?_
   refine AS ?_
   refine BJ ?_
   refine BL ?_
   refine BL ?_
   refine CJ (BY rfl ho rfl rfl rdZ rfl rfl ?_)
   rintro _ rfl
   cases hov : ovl d c with
   | true =>
    have hany : (cs.take k).any (ovl c) = true := by
     rw [List.any_eq_true]
     refine ⟨d, ?_, by rw [ovl_comm]; exact hov⟩
     rw [← hd]
     exact List.mem_take_iff_getElem.2 ⟨j, by omega, rfl⟩
    rw [hany, if_pos rfl] at hE
    have hh := firstE_hit hI (by rw [hE]; decide) _ hlt
    rw [hh, hE]
    refine A7 ?_
    refine AQ rfl ?_
    refine AB ?_
    refine AA ?_
    refine AD ?_
    refine AE ?_
    exact AI (res1 rfl rfl) rsubZ selZ ⟨rfl, rfl⟩
   | false =>
    rw [hov] at hnext
    refine A7 ?_
    refine AM rfl ?_
    refine AL ?_
    refine A8 ?_
    refine AA ?_
    refine AC ?_
    refine BD ?_
    refine AD ?_
    refine AE ?_
    exact A5 (j + 1) ⟨by omega, hnext⟩ (by omega) covZ selZ
  ·have hjk2 : j = k := by omega
   subst hjk2
   rw [hJ, if_neg (by simp)] at hE
   refine AB ?_
   refine AB ?_
   refine AA ?_
   refine AC ?_
   refine AC ?_
   refine AZ ?_
   refine AE ?_
   refine AM rfl ?_
   refine BE rfl ?_
   refine A8 ?_
   refine AA ?_
   refine AC ?_
   refine BD ?_
   refine AD ?_
   refine AE ?_
   exact A5 (j + 1) ⟨by omega, firstE_ok hI hE⟩ (by omega) covZ selZ
 have hke : k = cs.length := by omega
 subst hke
 rw [hI]
 refine AB ?_
 refine AB ?_
 refine AA ?_
 refine AC ?_
 refine AG ?_
 refine AF ?_
 refine AY ?_
 refine AZ ?_
 refine AE ?_
 refine AM rfl ?_
 refine BE rfl ?_
 refine AB ?_
 refine AA ?_
 refine AD ?_
 refine AE ?_
 exact AI (res1 rfl rfl) rsubZ selZ ⟨rfl, rfl⟩
end Go.Proofs.YtijheemiknkleaaGreatDoor
/- Step functions: what makes levels a function, its values, its sums. No program in sight. No conditions. -/
namespace Go.Step
structure Lv where
  a : Int
  v : Int
  deriving DecidableEq, Inhabited
def badL (l : Lv) : Prop := l.a < 0 ∨ 1099511627776 < l.a ∨ l.v < -1125899906842624 ∨ 1125899906842624 < l.v
instance (l : Lv) : Decidable (badL l) := by unfold badL; infer_instance
def chkL (pa pv : Int) : List Lv → Int
  | [] => 0
  | l :: f => if badL l then 2 else if l.a ≤ pa ∨ l.v = pv then 9 else chkL l.a l.v f
def chkS (f : List Lv) : Int := if 1000 < f.length then 4 else chkL (-1) 0 f
def Asc (pa : Int) : List Lv → Prop
  | [] => True
  | l :: f => pa < l.a ∧ l.a ≤ 1099511627776 ∧ (-1125899906842624 ≤ l.v ∧ l.v ≤ 1125899906842624) ∧ Asc l.a f
theorem chkL_asc : ∀ (f : List Lv) (pa pv : Int), chkL pa pv f = 0 → Asc pa f
  | [], _, _, _ => trivial
  | l :: f, pa, pv, h => by
    simp only [chkL] at h
    split at h
    · simp at h
    · rename_i h1
      split at h
      · simp at h
      · rename_i h2
        unfold badL at h1
        exact ⟨by omega, by omega, ⟨by omega, by omega⟩, chkL_asc f l.a l.v h⟩
theorem chkS_ok {f : List Lv} (h : chkS f = 0) : f.length ≤ 1000 ∧ Asc (-1) f := by
  unfold chkS at h
  split at h
  · simp at h
  · exact ⟨by omega, chkL_asc f _ _ h⟩
theorem Asc.mono : ∀ {f : List Lv} {p q : Int}, Asc p f → q ≤ p → Asc q f
  | [], _, _, _, _ => trivial
  | _ :: _, _, _, h, hq => ⟨by have := h.1; omega, h.2.1, h.2.2.1, h.2.2.2⟩
theorem Asc.gt : ∀ {f : List Lv} {p : Int}, Asc p f → ∀ l ∈ f, p < l.a ∧ l.a ≤ 1099511627776 ∧ -1125899906842624 ≤ l.v ∧ l.v ≤ 1125899906842624
  | [], _, _, l, hl => by simp at hl
  | m :: f, p, h, l, hl => by
    simp at hl
    rcases hl with rfl | hl
    · exact ⟨h.1, h.2.1, h.2.2.1⟩
    · have h9 := h.2.2.2.gt l hl
      have := h.1
      exact ⟨by omega, h9.2⟩
def vat (cur : Int) : List Lv → Int → Int
  | [], _ => cur
  | l :: f, t => if l.a ≤ t then vat l.v f t else cur
def val (f : List Lv) (t : Int) : Int := vat 0 f t
theorem vat_append : ∀ (f g : List Lv) (cur t : Int), (∀ l ∈ f, l.a ≤ t) → vat cur (f ++ g) t = vat (vat cur f t) g t
  | [], g, cur, t, _ => rfl
  | l :: f, g, cur, t, h => by
    simp only [List.cons_append, vat]
    rw [if_pos (h l (by simp)), if_pos (h l (by simp))]
    exact vat_append f g l.v t (fun m hm => h m (by simp [hm]))
theorem vat_late : ∀ (f : List Lv) (cur t : Int), (∀ l, f.head? = some l → t < l.a) → vat cur f t = cur
  | [], _, _, _ => rfl
  | l :: f, cur, t, h => by
    simp only [vat]
    rw [if_neg (by have := h l rfl; omega)]
theorem vat_last (f : List Lv) (l : Lv) (cur t : Int) (h : ∀ m ∈ f, m.a ≤ t) (hl : l.a ≤ t) : vat cur (f ++ [l]) t = l.v := by
  rw [vat_append f [l] cur t h]
  simp [vat, hl]
theorem vat_mem : ∀ (f : List Lv) (cur t : Int), vat cur f t = cur ∨ ∃ l ∈ f, vat cur f t = l.v
  | [], _, _ => .inl rfl
  | l :: f, cur, t => by
    simp only [vat]
    split
    · rcases vat_mem f l.v t with h | ⟨m, hm, h⟩
      · exact .inr ⟨l, by simp, h⟩
      · exact .inr ⟨m, by simp [hm], h⟩
    · exact .inl rfl
end Go.Step
namespace Go.Step
end Go.Step
namespace Go.Step
theorem Asc.idx : ∀ {f : List Lv} {p : Int}, Asc p f → ∀ (i j : Nat) (x y : Lv), f[i]? = some x → f[j]? = some y → i < j → x.a < y.a
  | [], _, _, i, j, x, y, h, _, _ => by simp at h
  | l :: f, p, hA, 0, j + 1, x, y, h1, h2, _ => by
    simp at h1; subst h1
    exact (hA.2.2.2.gt y (List.mem_of_getElem? (by simpa using h2))).1
  | l :: f, p, hA, i + 1, j + 1, x, y, h1, h2, hij => hA.2.2.2.idx i j x y (by simpa using h1) (by simpa using h2) (by omega)
  | l :: f, p, hA, i, 0, x, y, h1, h2, hij => by omega
end Go.Step
/- Levels whose times rise. No program in sight. No conditions. -/
namespace Go.Step
def AscT (pa : Int) : List Lv → Prop
  | [] => True
  | l :: f => pa < l.a ∧ l.a ≤ 1099511627776 ∧ AscT l.a f
theorem Asc.t : ∀ {f : List Lv} {p : Int}, Asc p f → AscT p f
  | [], _, _ => trivial
  | _ :: _, _, h => ⟨h.1, h.2.1, h.2.2.2.t⟩
theorem AscT.gt : ∀ {f : List Lv} {p : Int}, AscT p f → ∀ l ∈ f, p < l.a ∧ l.a ≤ 1099511627776
  | [], _, _, l, hl => by simp at hl
  | m :: f, p, h, l, hl => by
    simp at hl
    rcases hl with rfl | hl
    · exact ⟨h.1, h.2.1⟩
    · have h9 := h.2.2.gt l hl
      have := h.1
      exact ⟨by omega, h9.2⟩
theorem AscT.idx : ∀ {f : List Lv} {p : Int}, AscT p f → ∀ (i j : Nat) (x y : Lv), f[i]? = some x → f[j]? = some y → i < j → x.a < y.a
  | [], _, _, i, j, x, y, h, _, _ => by simp at h
  | l :: f, p, hA, 0, j + 1, x, y, h1, h2, _ => by
    simp at h1; subst h1
    exact (hA.2.2.gt y (List.mem_of_getElem? (by simpa using h2))).1
  | l :: f, p, hA, i + 1, j + 1, x, y, h1, h2, hij => hA.2.2.idx i j x y (by simpa using h1) (by simpa using h2) (by omega)
  | l :: f, p, hA, i, 0, x, y, h1, h2, hij => by omega
end Go.Step
/- Functions put together at their times. No program in sight. No conditions. -/
namespace Go.Step
open Go.Lib
abbrev SA (l : List Int) : Prop := l.Pairwise (· < ·)
theorem SA.unique : ∀ {l m : List Int}, SA l → SA m → (∀ x, x ∈ l ↔ x ∈ m) → l = m
  | [], [], _, _, _ => rfl
  | [], y :: m, _, _, h => by have := (h y).2 (by simp); simp at this
  | x :: l, [], _, _, h => by have := (h x).1 (by simp); simp at this
  | x :: l, y :: m, h1, h2, h => by
    have p1 := List.pairwise_cons.1 h1
    have p2 := List.pairwise_cons.1 h2
    have hxy : x = y := by
      have a := (h x).1 (by simp)
      have b := (h y).2 (by simp)
      simp at a b
      rcases a with a | a
      · exact a
      · rcases b with b | b
        · exact b.symm
        · have := p2.1 x a; have := p1.1 y b; omega
    subst hxy
    rw [SA.unique p1.2 p2.2 (fun z => ?_)]
    constructor
    · intro hz
      have := (h z).1 (by simp [hz])
      simp at this
      rcases this with rfl | this
      · have := p1.1 z hz; omega
      · exact this
    · intro hz
      have := (h z).2 (by simp [hz])
      simp at this
      rcases this with rfl | this
      · have := p2.1 z hz; omega
      · exact this
theorem compact_up {d : Array Int} (hs : ∀ i j, i ≤ j → j < d.size → d[i]! ≤ d[j]!) : ∀ m, m ≤ d.size → SA (compactUpTo d m) ∧ (∀ x, x ∈ compactUpTo d m ↔ ∃ j, j < m ∧ d[j]! = x)
  | 0, _ => by simp [compactUpTo]
  | m + 1, hm => by
    obtain ⟨h1, h2⟩ := compact_up hs m (by omega)
    rw [compactUpTo_succ]
    by_cases hk : keeps d m = true
    · rw [if_pos hk]
      have hlt : ∀ x ∈ compactUpTo d m, x < d[m]! := by
        intro x hx
        obtain ⟨j, hj, rfl⟩ := (h2 x).1 hx
        simp only [keeps, decide_eq_true_eq] at hk
        have a := hs j (m - 1) (by omega) (by omega)
        have b := hs (m - 1) m (by omega) (by omega)
        rcases hk with hk | hk
        · omega
        · have : d[m - 1]! ≠ d[m]! := fun e => hk e.symm
          omega
      refine ⟨List.pairwise_append.2 ⟨h1, by simp, fun x hx y hy => by simp at hy; subst hy; exact hlt x hx⟩, fun x => ?_⟩
      rw [List.mem_append, h2]
      constructor
      · rintro (⟨j, hj, e⟩ | hx)
        · exact ⟨j, by omega, e⟩
        · simp at hx; exact ⟨m, by omega, hx.symm⟩
      · rintro ⟨j, hj, e⟩
        by_cases hjm : j = m
        · subst hjm; right; simp [e]
        · left; exact ⟨j, by omega, e⟩
    · rw [if_neg hk, List.append_nil]
      simp only [keeps, decide_eq_true_eq, not_or] at hk
      refine ⟨h1, fun x => ?_⟩
      rw [h2]
      constructor
      · rintro ⟨j, hj, e⟩; exact ⟨j, by omega, e⟩
      · rintro ⟨j, hj, e⟩
        by_cases hjm : j = m
        · subst hjm
          exact ⟨j - 1, by omega, by have := Classical.not_not.1 hk.2; omega⟩
        · exact ⟨j, by omega, e⟩
theorem compact_sa {l : List Int} (h : l.Pairwise (· ≤ ·)) : SA (compact l) ∧ ∀ x, x ∈ compact l ↔ x ∈ l := by
  have hs : ∀ i j, i ≤ j → j < l.toArray.size → l.toArray[i]! ≤ l.toArray[j]! := by
    intro i j hij hj
    simp only [List.size_toArray] at hj
    rw [getElem!_pos l.toArray i (by simp; omega), getElem!_pos l.toArray j (by simpa using hj)]
    simp only [List.getElem_toArray]
    rcases Nat.lt_or_ge i j with h1 | h1
    · exact List.pairwise_iff_getElem.1 h i j (by omega) hj h1
    · have : i = j := by omega
      subst this; exact Int.le_refl _
  obtain ⟨h1, h2⟩ := compact_up hs l.length (by simp)
  refine ⟨h1, fun x => ?_⟩
  show x ∈ compactUpTo l.toArray l.length ↔ _
  rw [h2, List.mem_iff_getElem]
  constructor
  · rintro ⟨j, hj, e⟩
    refine ⟨j, hj, ?_⟩
    rw [getElem!_pos l.toArray j (by simpa using hj)] at e
    simpa using e
  · rintro ⟨j, hj, e⟩
    refine ⟨j, hj, ?_⟩
    rw [getElem!_pos l.toArray j (by simpa using hj)]
    simpa using e
def tms (f g : List Lv) : List Int := compact (((f ++ g).map (·.a)).mergeSort fun x y => decide (x ≤ y))
theorem tms_sa (f g : List Lv) : SA (tms f g) ∧ ∀ x, x ∈ tms f g ↔ ∃ l ∈ f ++ g, l.a = x := by
  have hp : (((f ++ g).map (·.a)).mergeSort fun x y => decide (x ≤ y)).Pairwise (· ≤ ·) := by
    have := List.pairwise_mergeSort (le := fun x y : Int => decide (x ≤ y)) (by intro a b c h1 h2; simp at *; omega) (by intro a b; simp; omega) ((f ++ g).map (·.a))
    exact this.imp (fun h => by simpa using h)
  obtain ⟨h1, h2⟩ := compact_sa hp
  refine ⟨h1, fun x => ?_⟩
  unfold tms
  rw [h2, List.mem_mergeSort, List.mem_map]
def comb (F : Int → Int) (last : Int) : List Int → List Lv
  | [] => []
  | t :: ts => if F t ≠ last then ⟨t, F t⟩ :: comb F (F t) ts else comb F (F t) ts
theorem comb_append (F : Int → Int) : ∀ (ts us : List Int) (last : Int), comb F last (ts ++ us) = comb F last ts ++ comb F (if ts = [] then last else F (ts.getLastD 0)) us
  | [], us, last => rfl
  | t :: ts, us, last => by
    have ih := comb_append F ts us (F t)
    have e : (if ts = [] then F t else F (ts.getLastD 0)) = F ((t :: ts).getLastD 0) := by
      cases ts with
      | nil => rfl
      | cons u ts => simp [List.getLastD]
    rw [e] at ih
    simp only [List.cons_append, comb]
    rw [ih, if_neg (by simp : ¬ (t :: ts = []))]
    split <;> rfl
theorem comb_len (F : Int → Int) : ∀ (ts : List Int) (last : Int), (comb F last ts).length ≤ ts.length
  | [], _ => by simp [comb]
  | t :: ts, last => by
    have := comb_len F ts (F t)
    simp only [comb]
    split <;> simp <;> omega
def okV (v : Int) : Prop := -1125899906842624 ≤ v ∧ v ≤ 1125899906842624
theorem comb_chk {F : Int → Int} : ∀ {ts : List Int} {pa pv : Int}, SA ts → (∀ t ∈ ts, pa < t ∧ 0 ≤ t ∧ t ≤ 1099511627776 ∧ okV (F t)) → chkL pa pv (comb F pv ts) = 0
  | [], _, _, _, _ => rfl
  | t :: ts, pa, pv, hs, h => by
    have p := List.pairwise_cons.1 hs
    have ht := h t (by simp)
    have hr : ∀ q : Int, q ≤ t → ∀ u ∈ ts, q < u ∧ 0 ≤ u ∧ u ≤ 1099511627776 ∧ okV (F u) := fun q hq u hu => by
      have := p.1 u hu
      have := h u (by simp [hu])
      exact ⟨by omega, this.2⟩
    simp only [comb]
    unfold okV at ht
    split
    · rename_i hne
      simp only [chkL]
      rw [if_neg (by unfold badL; dsimp only; omega), if_neg (by omega)]
      exact comb_chk p.2 (hr t (Int.le_refl _))
    · rename_i he
      have he : F t = pv := Classical.not_not.1 he
      rw [he]
      exact comb_chk p.2 (hr pa (by omega))
def tv (F : Int → Int) (cur : Int) : List Int → Int → Int
  | [], _ => cur
  | x :: xs, t => if x ≤ t then tv F (F x) xs t else cur
theorem comb_gt {F : Int → Int} : ∀ {ts : List Int} {last p : Int}, (∀ x ∈ ts, p < x) → ∀ l ∈ comb F last ts, p < l.a
  | [], _, _, _, l, hl => by simp [comb] at hl
  | t :: ts, last, p, h, l, hl => by
    simp only [comb] at hl
    split at hl
    · simp at hl
      rcases hl with rfl | hl
      · exact h t (by simp)
      · exact comb_gt (fun x hx => h x (by simp [hx])) l hl
    · exact comb_gt (fun x hx => h x (by simp [hx])) l hl
theorem vat_comb {F : Int → Int} {t : Int} : ∀ {ts : List Int} {cur : Int}, SA ts → vat cur (comb F cur ts) t = tv F cur ts t
  | [], _, _ => rfl
  | x :: xs, cur, hs => by
    have p := List.pairwise_cons.1 hs
    simp only [tv]
    by_cases hx : x ≤ t
    · rw [if_pos hx]
      simp only [comb]
      split
      · simp only [vat]; rw [if_pos hx]; exact vat_comb p.2
      · rename_i he
        have he : F x = cur := Classical.not_not.1 he
        rw [← he]; exact vat_comb p.2
    · rw [if_neg hx]
      refine vat_late _ _ _ (fun l hl => ?_)
      have hm : l ∈ comb F cur (x :: xs) := List.mem_of_mem_head? (by simpa using hl)
      have := comb_gt (p := x - 1) (fun y hy => by
        simp at hy
        rcases hy with rfl | hy
        · omega
        · have := p.1 y hy; omega) l hm
      omega
theorem tv_eq {F : Int → Int} : ∀ {ts : List Int} {p t : Int}, SA ts → (∀ x ∈ ts, p < x) → p ≤ t → (∀ a b : Int, p ≤ a → a ≤ b → (∀ y ∈ ts, ¬ (a < y ∧ y ≤ b)) → F b = F a) → tv F (F p) ts t = F t
  | [], p, t, _, _, ht, H => (H p t (Int.le_refl _) ht (by simp)).symm
  | x :: xs, p, t, hs, hp, ht, H => by
    have q := List.pairwise_cons.1 hs
    have hpx := hp x (by simp)
    simp only [tv]
    by_cases hx : x ≤ t
    · rw [if_pos hx]
      refine tv_eq q.2 q.1 hx (fun a b h1 h2 h3 => H a b (by omega) h2 (fun y hy => ?_))
      simp at hy
      rcases hy with rfl | hy
      · omega
      · exact h3 y hy
    · rw [if_neg hx]
      refine (H p t (Int.le_refl _) ht (fun y hy => ?_)).symm
      simp at hy
      rcases hy with rfl | hy
      · omega
      · have := q.1 y hy; omega
theorem vat_same : ∀ {f : List Lv} {p cur a b : Int}, AscT p f → a ≤ b → (∀ l ∈ f, ¬ (a < l.a ∧ l.a ≤ b)) → vat cur f b = vat cur f a
  | [], _, _, _, _, _, _, _ => rfl
  | l :: f, p, cur, a, b, h, hab, hn => by
    simp only [vat]
    have hl := hn l (by simp)
    by_cases h1 : l.a ≤ a
    · rw [if_pos h1, if_pos (by omega)]
      exact vat_same h.2.2 hab (fun m hm => hn m (by simp [hm]))
    · rw [if_neg h1, if_neg (by omega)]
theorem val_earlyT {f : List Lv} {p x : Int} (h : AscT p f) (hx : x ≤ p) : val f x = 0 := vat_late f 0 x (fun l hl => by
  have := (h.gt l (List.mem_of_mem_head? (by simpa using hl))).1
  omega)
theorem comb_val {f g : List Lv} (hf : AscT (-1) f) (hg : AscT (-1) g) {op : Int → Int → Int} (h0 : op 0 0 = 0) {t : Int} (ht : -1 ≤ t) : val (comb (fun t => op (val f t) (val g t)) 0 (tms f g)) t = op (val f t) (val g t) := by
  obtain ⟨h1, h2⟩ := tms_sa f g
  have e0 : op (val f (-1)) (val g (-1)) = 0 := by rw [val_earlyT hf (Int.le_refl _), val_earlyT hg (Int.le_refl _), h0]
  have hp : ∀ x ∈ tms f g, -1 < x := fun x hx => by
    obtain ⟨l, hl, rfl⟩ := (h2 x).1 hx
    rcases List.mem_append.1 hl with hl | hl
    · exact (hf.gt l hl).1
    · exact (hg.gt l hl).1
  show vat 0 _ t = _
  rw [vat_comb h1]
  have := tv_eq (F := fun t => op (val f t) (val g t)) (p := -1) (t := t) h1 hp ht (fun a b ha hab hn => by
    have e1 : val f b = val f a := vat_same hf hab (fun l hl hx => hn l.a ((h2 l.a).2 ⟨l, by simp [hl], rfl⟩) hx)
    have e2 : val g b = val g a := vat_same hg hab (fun l hl hx => hn l.a ((h2 l.a).2 ⟨l, by simp [hl], rfl⟩) hx)
    simp only [e1, e2])
  simp only [e0] at this
  exact this
theorem tms_rng {f g : List Lv} (hf : AscT (-1) f) (hg : AscT (-1) g) : ∀ x ∈ tms f g, 0 ≤ x ∧ x ≤ 1099511627776 := fun x hx => by
  obtain ⟨l, hl, rfl⟩ := ((tms_sa f g).2 x).1 hx
  rcases List.mem_append.1 hl with hl | hl
  · have := hf.gt l hl; omega
  · have := hg.gt l hl; omega
theorem chkL_unique : ∀ {f g : List Lv} {pa pv : Int}, chkL pa pv f = 0 → chkL pa pv g = 0 → (∀ t : Int, pa < t → t ≤ 1099511627776 → vat pv f t = vat pv g t) → f = g
  | [], [], _, _, _, _, _ => rfl
  | [], m :: g, pa, pv, _, h2, H => by
    exfalso
    have hA := chkL_asc _ _ _ h2
    have := H m.a hA.1 hA.2.1
    simp only [vat] at this
    rw [if_pos (Int.le_refl _), vat_late g m.v m.a (fun l hl => (hA.2.2.2.gt l (List.mem_of_mem_head? (by simpa using hl))).1)] at this
    simp only [chkL] at h2
    split at h2
    · simp at h2
    · rw [if_pos (.inr this.symm)] at h2; simp at h2
  | l :: f, [], pa, pv, h1, _, H => by
    exfalso
    have hA := chkL_asc _ _ _ h1
    have := H l.a hA.1 hA.2.1
    simp only [vat] at this
    rw [if_pos (Int.le_refl _), vat_late f l.v l.a (fun m hm => (hA.2.2.2.gt m (List.mem_of_mem_head? (by simpa using hm))).1)] at this
    simp only [chkL] at h1
    split at h1
    · simp at h1
    · rw [if_pos (.inr this)] at h1; simp at h1
  | l :: f, m :: g, pa, pv, h1, h2, H => by
    have hA := chkL_asc _ _ _ h1
    have hB := chkL_asc _ _ _ h2
    have e1 := H l.a hA.1 hA.2.1
    have e2 := H m.a hB.1 hB.2.1
    have q1 : vat l.v f l.a = l.v := vat_late f l.v l.a (fun x hx => (hA.2.2.2.gt x (List.mem_of_mem_head? (by simpa using hx))).1)
    have q2 : vat m.v g m.a = m.v := vat_late g m.v m.a (fun x hx => (hB.2.2.2.gt x (List.mem_of_mem_head? (by simpa using hx))).1)
    simp only [vat] at e1 e2
    rw [if_pos (Int.le_refl _), q1] at e1
    rw [if_pos (Int.le_refl (m.a)), q2] at e2
    simp only [chkL] at h1 h2
    split at h1
    · simp at h1
    · split at h1
      · simp at h1
      · rename_i hl
        split at h2
        · simp at h2
        · split at h2
          · simp at h2
          · rename_i hm
            have ha : l.a = m.a := by
              rcases Int.lt_trichotomy l.a m.a with h | h | h
              · rw [if_neg (by omega)] at e1
                exact absurd e1 (by omega)
              · exact h
              · rw [if_neg (by omega)] at e2
                exact absurd e2.symm (by omega)
            rw [if_pos (by omega), ha, q2] at e1
            obtain ⟨la, lv⟩ := l
            obtain ⟨ma, mv⟩ := m
            simp only at ha e1
            subst ha e1
            congr 1
            refine chkL_unique h1 h2 (fun t ht htm => ?_)
            have := H t (by have := hA.1; simp only at this ht; omega) htm
            simp only [vat] at this
            rw [if_pos (by simp only at ht; omega), if_pos (by simp only at ht; omega)] at this
            exact this
def CombP (F : Int → Int) (ts : List Int) (out : List Lv) (e : Int) : Prop :=
  ((∃ t ∈ ts, ¬ okV (F t)) ∧ out = [] ∧ e = 5) ∨ ((∀ t ∈ ts, okV (F t)) ∧ 1000 < (comb F 0 ts).length ∧ out = [] ∧ e = 4) ∨ ((∀ t ∈ ts, okV (F t)) ∧ (comb F 0 ts).length ≤ 1000 ∧ out = comb F 0 ts ∧ e = 0)
theorem CombP.unique {F : Int → Int} {ts : List Int} {o o' : List Lv} {e e' : Int} (h : CombP F ts o e) (h' : CombP F ts o' e') : o = o' ∧ e = e' := by
  rcases h with ⟨⟨t, ht, a⟩, b, c⟩ | ⟨a, b, c, d⟩ | ⟨a, b, c, d⟩ <;> rcases h' with ⟨⟨t', ht', a'⟩, b', c'⟩ | ⟨a', b', c', d'⟩ | ⟨a', b', c', d'⟩
  · exact ⟨by rw [b, b'], by rw [c, c']⟩
  · exact absurd (a' t ht) a
  · exact absurd (a' t ht) a
  · exact absurd (a t' ht') a'
  · exact ⟨by rw [c, c'], by rw [d, d']⟩
  · omega
  · exact absurd (a t' ht') a'
  · omega
  · exact ⟨by rw [c, c'], by rw [d, d']⟩
theorem CombP.ok {f g : List Lv} (hf : AscT (-1) f) (hg : AscT (-1) g) {op : Int → Int → Int} (h0 : op 0 0 = 0) {out : List Lv} (h : CombP (fun t => op (val f t) (val g t)) (tms f g) out 0) : chkS out = 0 ∧ ∀ t : Int, -1 ≤ t → val out t = op (val f t) (val g t) := by
  rcases h with ⟨_, _, h⟩ | ⟨_, _, _, h⟩ | ⟨h1, h2, rfl, _⟩
  · simp at h
  · simp at h
  · refine ⟨?_, fun t ht => comb_val hf hg h0 ht⟩
    unfold chkS
    rw [if_neg (by omega)]
    exact comb_chk (tms_sa f g).1 (fun t ht => by
      have := tms_rng hf hg t ht
      exact ⟨by omega, this.1, this.2, h1 t ht⟩)
def SumR (f g out : List Lv) (e : Int) : Prop :=
  ((chkS f ≠ 0 ∨ chkS g ≠ 0) ∧ out = [] ∧ e = 1) ∨ (chkS f = 0 ∧ chkS g = 0 ∧ CombP (fun t => val f t + val g t) (tms f g) out e)
theorem SumR.unique {f g o o' : List Lv} {e e' : Int} (h : SumR f g o e) (h' : SumR f g o' e') : o = o' ∧ e = e' := by
  rcases h with ⟨a, b, c⟩ | ⟨a, b, c⟩ <;> rcases h' with ⟨a', b', c'⟩ | ⟨a', b', c'⟩
  · exact ⟨by rw [b, b'], by rw [c, c']⟩
  · rcases a with a | a
    · exact absurd a' a
    · exact absurd b' a
  · rcases a' with a' | a'
    · exact absurd a a'
    · exact absurd b a'
  · exact c.unique c'
def bump (fr to d : Int) : List Lv := [⟨fr, d⟩, ⟨to, 0⟩]
theorem bump_asc {fr to d : Int} (h : 0 ≤ fr ∧ fr < to ∧ to ≤ 1099511627776) : AscT (-1) (bump fr to d) := ⟨by dsimp only; omega, by dsimp only; omega, by dsimp only; omega, by dsimp only; omega, trivial⟩
theorem bump_val (fr to d t : Int) (h : fr < to) : val (bump fr to d) t = if fr ≤ t ∧ t < to then d else 0 := by
  simp only [val, bump, vat]
  by_cases h1 : fr ≤ t
  · rw [if_pos h1]
    by_cases h2 : to ≤ t
    · rw [if_pos h2, if_neg (by omega)]
    · rw [if_neg h2, if_pos (by omega)]
  · rw [if_neg h1, if_neg (by omega)]
def AddR (f : List Lv) (fr to d : Int) (out : List Lv) (e : Int) : Prop :=
  (chkS f ≠ 0 ∧ out = [] ∧ e = 1) ∨ (chkS f = 0 ∧ (¬ (0 ≤ fr ∧ fr ≤ to ∧ to ≤ 1099511627776) ∨ d < -2251799813685248 ∨ 2251799813685248 < d) ∧ out = [] ∧ e = 2) ∨
  (chkS f = 0 ∧ (0 ≤ fr ∧ fr ≤ to ∧ to ≤ 1099511627776) ∧ (-2251799813685248 ≤ d ∧ d ≤ 2251799813685248) ∧ fr = to ∧ out = f ∧ e = 0) ∨
  (chkS f = 0 ∧ (0 ≤ fr ∧ fr < to ∧ to ≤ 1099511627776) ∧ (-2251799813685248 ≤ d ∧ d ≤ 2251799813685248) ∧ CombP (fun t => val f t + val (bump fr to d) t) (tms f (bump fr to d)) out e)
theorem AddR.unique {f o o' : List Lv} {fr to d e e' : Int} (h : AddR f fr to d o e) (h' : AddR f fr to d o' e') : o = o' ∧ e = e' := by
  rcases h with ⟨a, b, c⟩ | ⟨a, b, c, x⟩ | ⟨a, b, c, x, y, z⟩ | ⟨a, b, c, x⟩ <;> rcases h' with ⟨a', b', c'⟩ | ⟨a', b', c', x'⟩ | ⟨a', b', c', x', y', z'⟩ | ⟨a', b', c', x'⟩
  all_goals first
    | exact absurd a' a
    | exact absurd a a'
    | exact ⟨by rw [b, b'], by rw [c, c']⟩
    | exact ⟨by rw [c, c'], by rw [x, x']⟩
    | exact ⟨by rw [y, y'], by rw [z, z']⟩
    | exact x.unique x'
    | omega
    | (clear x'; omega)
    | (clear x; omega)
theorem AddR.ok {f out : List Lv} {fr to d : Int} (h : AddR f fr to d out 0) : chkS f = 0 ∧ chkS out = 0 ∧ ∀ t : Int, -1 ≤ t → val out t = val f t + if fr ≤ t ∧ t < to then d else 0 := by
  rcases h with ⟨_, _, h⟩ | ⟨_, _, _, h⟩ | ⟨a, b, c, x, rfl, _⟩ | ⟨a, b, c, x⟩
  · simp at h
  · simp at h
  · exact ⟨a, a, fun t ht => by rw [if_neg (by omega)]; omega⟩
  · obtain ⟨h1, h2⟩ := CombP.ok (op := (· + ·)) (chkS_ok a).2.t (bump_asc b) rfl x
    refine ⟨a, h1, fun t ht => ?_⟩
    rw [h2 t ht, bump_val fr to d t b.2.1]
theorem chkS_unique {f g : List Lv} (hf : chkS f = 0) (hg : chkS g = 0) (h : ∀ t : Int, -1 ≤ t → val f t = val g t) : f = g := by
  have hf1 := (chkS_ok hf).1
  have hg1 := (chkS_ok hg).1
  unfold chkS at hf hg
  rw [if_neg (by omega)] at hf hg
  exact chkL_unique hf hg (fun t ht _ => h t (by omega))
end Go.Step
/- Holds: what a node stores, as a function of time. No program in sight. No conditions. -/
namespace Go.Step
structure Hd where
  n : Int
  a : Int
  b : Int
  s : Int
  k : Int
deriving DecidableEq
def okHd (nq : Nat) (h : Hd) : Prop := (0 ≤ h.n ∧ h.n < nq) ∧ (0 ≤ h.a ∧ h.a < h.b ∧ h.b ≤ 1099511627776) ∧ (1 ≤ h.s ∧ h.s ≤ 65536) ∧ (0 ≤ h.k ∧ h.k ≤ 1152921504606846976)
instance (nq : Nat) (h : Hd) : Decidable (okHd nq h) := inferInstanceAs (Decidable (_ ∧ _))
def cmpI (a b : Int) : Int := if a < b then -1 else if b < a then 1 else 0
def orI : List Int → Int
  | [] => 0
  | x :: l => if x ≠ 0 then x else orI l
def cmpHd (x y : Hd) : Int := orI [cmpI x.n y.n, cmpI x.a y.a, cmpI x.b y.b, cmpI x.k y.k, cmpI x.s y.s]
def stored (l : List Hd) (n t : Int) : Int := match l with
  | [] => 0
  | h :: l => (if h.n = n ∧ h.a ≤ t ∧ t < h.b then h.s else 0) + stored l n t
def delta (l : List Hd) (n t : Int) : Int := match l with
  | [] => 0
  | h :: l => (if h.n = n then (if h.a = t then h.s else 0) - (if h.b = t then h.s else 0) else 0) + delta l n t
theorem stored_step {n p t : Int} (hpt : p < t) : ∀ {l : List Hd}, (∀ h ∈ l, h.n = n → (h.a ≤ p ∨ t ≤ h.a) ∧ (h.b ≤ p ∨ t ≤ h.b) ∧ h.a < h.b) → stored l n t = stored l n p + delta l n t
  | [], _ => rfl
  | h :: l, H => by
    have ih := stored_step hpt (l := l) (fun x hx => H x (by simp [hx]))
    have h0 := H h (by simp)
    simp only [stored, delta, ih]
    by_cases hn : h.n = n
    · have := h0 hn
      simp only [hn, true_and, if_true]
      split <;> split <;> split <;> split <;> omega
    · simp only [hn, false_and, if_false]
      omega
theorem stored_early {n t : Int} : ∀ {l : List Hd}, (∀ h ∈ l, h.n = n → t < h.a) → stored l n t = 0
  | [], _ => rfl
  | h :: l, H => by
    have ih := stored_early (l := l) (fun x hx => H x (by simp [hx]))
    have h0 := H h (by simp)
    simp only [stored, ih]
    by_cases hn : h.n = n
    · have := h0 hn
      rw [if_neg (by omega)]; rfl
    · rw [if_neg (by omega)]; rfl
theorem stored_bd {n t : Int} {nq : Nat} : ∀ {l : List Hd}, (∀ h ∈ l, okHd nq h) → 0 ≤ stored l n t ∧ stored l n t ≤ 65536 * l.length
  | [], _ => by simp [stored]
  | h :: l, H => by
    have ih := stored_bd (n := n) (t := t) (l := l) (fun x hx => H x (by simp [hx]))
    have h0 := (H h (by simp)).2.2.1
    simp only [stored, List.length_cons, Int.natCast_add, Int.mul_add]
    split <;> omega
theorem delta_bd {n t : Int} {nq : Nat} : ∀ {l : List Hd}, (∀ h ∈ l, okHd nq h) → -(65536 * (l.length : Int)) ≤ delta l n t ∧ delta l n t ≤ 65536 * l.length
  | [], _ => by simp [delta]
  | h :: l, H => by
    have ih := delta_bd (n := n) (t := t) (l := l) (fun x hx => H x (by simp [hx]))
    have h0 := (H h (by simp)).2.2.1
    have h1 := (H h (by simp)).2.1
    simp only [delta, List.length_cons, Int.natCast_add, Int.mul_add]
    split
    · split <;> split <;> omega
    · omega
def tmH (l : List Hd) (n : Int) : List Int := l.flatMap (fun h => if h.n = n then [h.a, h.b] else [])
theorem mem_tmH {l : List Hd} {n x : Int} : x ∈ tmH l n ↔ ∃ h ∈ l, h.n = n ∧ (x = h.a ∨ x = h.b) := by
  unfold tmH
  rw [List.mem_flatMap]
  constructor
  · rintro ⟨h, hm, hx⟩
    by_cases hn : h.n = n
    · rw [if_pos hn] at hx
      exact ⟨h, hm, hn, by simpa using hx⟩
    · rw [if_neg hn] at hx; simp at hx
  · rintro ⟨h, hm, hn, hx⟩
    exact ⟨h, hm, by rw [if_pos hn]; simpa using hx⟩
def hts (l : List Hd) (n : Int) : List Int := Lib.compact ((tmH l n).mergeSort fun x y => decide (x ≤ y))
theorem hts_sa (l : List Hd) (n : Int) : SA (hts l n) ∧ ∀ x, x ∈ hts l n ↔ x ∈ tmH l n := by
  have hp : ((tmH l n).mergeSort fun x y => decide (x ≤ y)).Pairwise (· ≤ ·) := by
    have := List.pairwise_mergeSort (le := fun x y : Int => decide (x ≤ y)) (by intro a b c h1 h2; simp at *; omega) (by intro a b; simp; omega) (tmH l n)
    exact this.imp (fun h => by simpa using h)
  obtain ⟨h1, h2⟩ := compact_sa hp
  exact ⟨h1, fun x => by unfold hts; rw [h2 x, List.mem_mergeSort]⟩
def lvH (l : List Hd) (n : Int) : List Lv := comb (stored l n) 0 (hts l n)
def prevF (F : Int → Int) (ts : List Int) (k : Nat) : Int := if k = 0 then 0 else F (ts.getD (k - 1) 0)
theorem comb_snoc (F : Int → Int) {ts : List Int} {k : Nat} {t : Int} (h : ts[k]? = some t) : comb F 0 (ts.take (k + 1)) = comb F 0 (ts.take k) ++ (if F t = prevF F ts k then [] else [⟨t, F t⟩]) := by
  obtain ⟨hk, rfl⟩ := List.getElem?_eq_some_iff.1 h
  rw [List.take_succ_eq_append_getElem hk, comb_append]
  congr 1
  have e : (if ts.take k = [] then (0 : Int) else F ((ts.take k).getLastD 0)) = prevF F ts k := by
    unfold prevF
    by_cases h0 : k = 0
    · subst h0; simp
    · have hne : ts.take k ≠ [] := by
        intro hh
        have := congrArg List.length hh
        rw [List.length_take, List.length_nil] at this
        omega
      rw [if_neg hne, if_neg h0]
      congr 1
      rw [List.getLastD_eq_getLast?, List.getLast?_eq_getElem?, List.length_take, Nat.min_eq_left (by omega), List.getElem?_take_of_lt (by omega)]
      rw [List.getD_eq_getElem?_getD]
  rw [e]
  by_cases hc : F ts[k] = prevF F ts k
  · rw [if_pos hc]; simp only [comb]; rw [if_neg (fun h => h hc)]
  · rw [if_neg hc]; simp only [comb]; rw [if_pos hc]
end Go.Step
/- Holds: valid ones, their order; of the program and of the reference. -/
namespace Go.Proofs.YtijheemiknkleaaGreatDoor
open Go.Eng Go.Step
set_option maxRecDepth 100000
set_option maxHeartbeats 4000000

theorem isNaN_spec (a : Int) : Ans Tryz.prog (fv 140) [int a] [] (fun r => r = .bool false) := by
 refine spec_in (cap := []) Tryz.func140 rfl rfl Tryz.ntmps140 rfl envZ (fun N β => ?_)
 refine AB ?_
 refine AA ?_
 refine AD ?_
 refine AE ?_
 refine AB ?_
 refine AA ?_
 refine AC ?_
 refine AC ?_
 refine BG ?_
 refine AD ?_
 refine AE ?_
 exact AI (res1 rfl rfl) rsubZ selZ ⟨rfl, rfl⟩
theorem cmpI_spec (a b : Int) : Ans Tryz.prog (fv 108) [int a, int b] [] (fun r => r = int (cmpI a b)) := by
 refine spec_in (cap := []) Tryz.func108 rfl rfl Tryz.ntmps108 rfl envZ (fun N β => ?_)
 repeat' (first
  | (refine AC ?_)
  | (refine AD ?_)
  | (refine AB ?_)
  | (refine AA ?_)
  | (refine AE ?_)
  | (refine AL ?_)
  | (refine AQ rfl ?_)
  | (refine AM rfl ?_)
  | (focus ((refine A3 (isNaN_spec _) rfl rfl rdZ rfl rfl ?_; rintro _ rfl)))
  | (focus ((refine CF rfl rfl (cmp_lt _ _) rfl rfl (fun h => ?_) (fun h => ?_))))
  | fail)
 all_goals (refine AI (res1 rfl rfl) rsubZ selZ ⟨rfl, ?_⟩; unfold cmpI; (repeat' split) <;> first | rfl | (exfalso; omega))
theorem orI_cons (x : Int) (l : List Int) : orI (x :: l) = if x ≠ 0 then x else orI l := rfl
theorem or_spec (ρ : PH) (v : Value) (l : List Int) (hv : IntsAt ρ v l) (hl : l.length ≤ 1000) : Ans Tryz.prog (fv 107) [v] [ρ] (fun r => r = int (orI l)) := by
 obtain ⟨q, c, rfl, hr⟩ := hv.val Eng.encI_len
 refine spec_in (cap := []) Tryz.func107 rfl rfl Tryz.ntmps107 rfl envZ (fun N β => ?_)
 refine AB ?_
 refine AA ?_
 refine AD ?_
 refine AE ?_
 refine AB ?_
 refine AA ?_
 refine AD ?_
 refine AE ?_
 refine AB ?_
 refine AB ?_
 refine AA ?_
 refine AC ?_
 refine AY ?_
 refine AC ?_
 refine AE ?_
 refine AV ?_
 refine BM [3, 6, 7] (0 : Nat) (fun k => k ≤ l.length ∧ orI l = orI (l.drop k)) (fun k => [(8, int k)]) (fun _ => []) (fun k => l.length - k) pickZ ⟨by omega, rfl⟩ covZ selZ ?_
 rintro k ⟨hk, hI⟩
 by_cases hlt : k < l.length
 ·have hx := List.getElem?_eq_getElem hlt
  obtain ⟨b1, o1, rfl, g1⟩ := hr.int hx
  rw [List.drop_eq_getElem_cons hlt] at hI
  generalize l[k] = x at g1 hI
  rw [orI_cons] at hI
  by_cases h0 : x = 0
  ·rw [if_neg (by omega)] at hI
   refine AB ?_
   refine AA ?_
   refine BI ?_
   refine AE ?_
   refine AB ?_
   refine AQ rfl ?_
   refine AL ?_
   refine AB ?_
   refine AV ?_
   refine AB ?_
   refine AA ?_
   refine B9 ?_
   refine AF ?_
   refine AD ?_
   refine AE ?_
   refine AB ?_
   refine AA ?_
   refine AC ?_
   refine AC ?_
   refine BG ?_
   refine AE ?_
   refine AM rfl ?_
   refine AL ?_
   refine A8 ?_
   refine AA ?_
   refine BD ?_
   refine AC ?_
   refine AE ?_
   exact A5 (k + 1) ⟨by omega, hI⟩ (by omega) covZ selZ
  ·rw [if_pos h0] at hI
   rw [hI]
   refine AB ?_
   refine AA ?_
   refine BI ?_
   refine AE ?_
   refine AB ?_
   refine AQ rfl ?_
   refine AL ?_
   refine AB ?_
   refine AV ?_
   refine AB ?_
   refine AA ?_
   refine B9 ?_
   refine AF ?_
   refine AD ?_
   refine AE ?_
   refine AB ?_
   refine AA ?_
   refine AC ?_
   refine AC ?_
   refine CR ?_
   refine AE ?_
   refine AQ rfl ?_
   refine AB ?_
   refine AA ?_
   refine AC ?_
   refine AD ?_
   refine AE ?_
   exact AI (res1 rfl rfl) rsubZ selZ ⟨rfl, rfl⟩
 ·rw [hI, List.drop_of_length_le (by omega)]
  refine AB ?_
  refine AA ?_
  refine AZ ?_
  refine AE ?_
  refine AB ?_
  refine AM rfl ?_
  refine BE rfl ?_
  refine AB ?_
  refine AA ?_
  refine AC ?_
  refine AD ?_
  refine AE ?_
  exact AI (res1 rfl rfl) rsubZ selZ ⟨rfl, rfl⟩
def encH (h : Hd) : List Value := [int h.n, int h.a, int h.b, int h.s, int h.k]
theorem encH_len (h : Hd) : (encH h).length = 5 := rfl
abbrev HdAt (ρ : PH) (v : Value) (l : List Hd) : Prop := SlE encH 5 ρ v l
theorem hdRow {ρ : PH} {p : Option Addr} {l : List Hd} (h : RowsE encH 5 ρ p l) {i : Nat} {x : Hd} (hx : l[i]? = some x) :
  ∃ b o, p = some ⟨b, o, none⟩ ∧ RdN ρ b (o + i * 5) [int x.n, int x.a, int x.b, int x.s, int x.k] := h i x hx
set_option maxHeartbeats 16000000 in
theorem compare_spec (x y : Hd) : Ans Tryz.prog (fv 132) [.agg #[int x.n, int x.a, int x.b, int x.s, int x.k], .agg #[int y.n, int y.a, int y.b, int y.s, int y.k]] [] (fun r => r = int (cmpHd x y)) := by
 refine spec_in (cap := []) Tryz.func132 rfl rfl Tryz.ntmps132 rfl envZ (fun N β => ?_)
 refine AB ?_
 refine AA ?_
 refine BQ ?_; rintro _ _ ⟨b, rfl, rfl⟩
 refine BQ ?_; rintro _ _ ⟨b, rfl, rfl⟩
 refine AD ?_
 refine AE ?_
 refine AB ?_
 refine BA (.q 0 (.q 1 (.q 2 (.q 3 (.q 5 (.q 6 (.q 7 (.q 8 (.q 10 (.q 11 (.q 12 (.q 13 (.q 15 (.q 16 (.q 17 (.q 18 (.q 20 (.q 21 (.q 22 (.q 23 (.l 4 .e (.l 9 .e (.l 14 .e (.l 19 .e (.l 24 .e (.l 25 .e (.l 26 .e (.q 27 .nil)))))))))))))))))))))))))))) [] rfl (by kernel_rfl) selZ ?_
 refine AW ?_
 refine AP ?_
 refine AW ?_
 refine AP ?_
 refine AW ?_
 refine AP ?_
 refine AW ?_
 refine AP ?_
 refine AW ?_
 refine AP ?_
 refine AW ?_
 refine AP ?_
 refine AW ?_
 refine AP ?_
 refine AW ?_
 refine AP ?_
 refine AW ?_
 refine AP ?_
 refine AW ?_
 refine AP ?_
 focus ((refine CJ (BY rfl (cmpI_spec _ _) rfl rfl rdZ rfl rfl ?_); rintro _ rfl))
 focus ((refine CJ (BY rfl (cmpI_spec _ _) rfl rfl rdZ rfl rfl ?_); rintro _ rfl))
 focus ((refine CJ (BY rfl (cmpI_spec _ _) rfl rfl rdZ rfl rfl ?_); rintro _ rfl))
 focus ((refine CJ (BY rfl (cmpI_spec _ _) rfl rfl rdZ rfl rfl ?_); rintro _ rfl))
 focus ((refine CJ (BY rfl (cmpI_spec _ _) rfl rfl rdZ rfl rfl ?_); rintro _ rfl))
 refine B0 ?_; rintro _ _ ⟨b, rfl, rfl⟩
 revert b; intro bo
 refine CJ (BY rfl (or_spec (sng bo _) _ [cmpI x.n y.n, cmpI x.a y.a, cmpI x.b y.b, cmpI x.k y.k, cmpI x.s y.s] (slE_sng Eng.encI_len) (by simp)) rfl rfl rdZ rfl rfl ?_)
 rintro _ rfl
 refine B7 ?_
 refine A7 ?_
 skip
 exact AI (res1 rfl rfl) rsubZ selZ ⟨rfl, rfl⟩
set_option maxHeartbeats 16000000 in
theorem less_spec (x y : Hd) : Ans Tryz.prog (fv 70) [.agg #[int x.n, int x.a, int x.b, int x.s, int x.k], .agg #[int y.n, int y.a, int y.b, int y.s, int y.k]] [] (fun r => r = .bool (decide (cmpHd x y < 0))) := by
 refine spec_in (cap := []) Tryz.func70 rfl rfl Tryz.ntmps70 rfl envZ (fun N β => ?_)
 repeat' (first
  | (refine AD ?_)
  | (refine AF ?_)
  | (refine AG ?_)
  | (refine AB ?_)
  | (refine AA ?_)
  | (refine AE ?_)
  | (refine AL ?_)
  | (refine AQ rfl ?_)
  | (refine AM rfl ?_)
  | (refine BQ ?_; rintro _ _ ⟨b, rfl, rfl⟩)
  | (focus ((refine CF rfl rfl (cmp_ne _ _) rfl rfl (fun h => ?_) (fun h => ?_))))
  | (focus ((refine CF rfl rfl (cmp_lt _ _) rfl rfl (fun h => ?_) (fun h => ?_))))
  | fail)
 all_goals (refine AI (res1 rfl rfl) rsubZ selZ ⟨rfl, ?_⟩; congr 1; unfold cmpHd cmpI; simp only [orI]; first | exact (decide_eq_false (by omega)).symm | exact (decide_eq_true (by omega)).symm | (apply decide_eq_decide.2; omega))
theorem valid28_spec (v w : Value) (ρ : PH) (qs : List Int) (kq : Nat) (pq : Option Addr) (h : Hd) (hv : v = .slice pq qs.length kq) (h1 : w.oneCell' = true) : Ans Tryz.prog (fv 131) [.agg #[v, w], .agg #[int h.n, int h.a, int h.b, int h.s, int h.k]] [] (fun r => r = .bool (decide (okHd qs.length h))) := by
 subst hv
 refine spec_in (cap := []) Tryz.func131 rfl rfl Tryz.ntmps131 rfl envZ (fun N β => ?_)
 repeat' (first
  | (refine AC ?_)
  | (refine AD ?_)
  | (refine AF ?_)
  | (refine AG ?_)
  | (refine AT ?_)
  | (refine AK ?_)
  | (refine AY ?_)
  | (refine AB ?_)
  | (refine AA ?_)
  | (refine AE ?_)
  | (refine AJ rfl rfl rfl ?_)
  | (refine BQ ?_; rintro _ _ ⟨b, rfl, rfl⟩)
  | (focus ((refine CF rfl rfl (cmp_lt _ _) rfl rfl (fun h => ?_) (fun h => ?_))))
  | (focus ((refine CF rfl rfl (cmp_le _ _) rfl rfl (fun h => ?_) (fun h => ?_))))
  | fail)
 all_goals (refine AI (res1 rfl rfl) rsubZ selZ ⟨rfl, ?_⟩; congr 1; unfold okHd; first | exact (decide_eq_false (by omega)).symm | exact (decide_eq_true (by omega)).symm | (apply decide_eq_decide.2; omega))
theorem refValid28_spec (v w : Value) (ρ : PH) (qs : List Int) (kq : Nat) (pq : Option Addr) (h : Hd) (hv : v = .slice pq qs.length kq) (h1 : w.oneCell' = true) : Ans Tryz.prog (fv 69) [.agg #[v, w], .agg #[int h.n, int h.a, int h.b, int h.s, int h.k]] [] (fun r => r = .bool (decide (okHd qs.length h))) := by
 subst hv
 refine spec_in (cap := []) Tryz.func69 rfl rfl Tryz.ntmps69 rfl envZ (fun N β => ?_)
 repeat' (first
  | (refine AC ?_)
  | (refine AD ?_)
  | (refine AF ?_)
  | (refine AG ?_)
  | (refine AT ?_)
  | (refine AK ?_)
  | (refine AY ?_)
  | (refine AB ?_)
  | (refine AA ?_)
  | (refine AE ?_)
  | (refine AJ rfl rfl rfl ?_)
  | (refine BQ ?_; rintro _ _ ⟨b, rfl, rfl⟩)
  | (focus ((refine CF rfl rfl (cmp_lt _ _) rfl rfl (fun h => ?_) (fun h => ?_))))
  | (focus ((refine CF rfl rfl (cmp_le _ _) rfl rfl (fun h => ?_) (fun h => ?_))))
  | fail)
 all_goals (refine AI (res1 rfl rfl) rsubZ selZ ⟨rfl, ?_⟩; congr 1; unfold okHd; first | exact (decide_eq_false (by omega)).symm | exact (decide_eq_true (by omega)).symm | (apply decide_eq_decide.2; omega))
end Go.Proofs.YtijheemiknkleaaGreatDoor
/- Changes noted in a map, and their times. No program in sight. No conditions. -/
namespace Go.Step
open Go.Eng
theorem mget_mset (k v x : Int) : ∀ m : List (Int × Int), mget x (mset k v m) = if x = k then some v else mget x m
  | [] => by
    unfold mget mset midx
    by_cases h : x = k
    · simp [h]
    · simp [h, midx]
  | (a, w) :: m => by
    have ih := mget_mset k v x m
    unfold mget at ih ⊢
    by_cases hk : k = a
    · subst hk
      simp only [mset, if_true, midx]
      by_cases h : x = k <;> simp [h]
    · simp only [mset, if_neg hk, midx]
      by_cases h : x = a
      · subst h
        simp [Ne.symm hk]
      · simp only [if_neg h, Option.map_map]
        have e : ((fun p : Nat × Int => p.2) ∘ fun p : Nat × Int => (p.1 + 1, p.2)) = fun p => p.2 := rfl
        rw [e]
        exact ih
def noteT (m : List (Int × Int)) (T : List Int) (t : Int) : List Int := if mget t m = none then T ++ [t] else T
structure InvD (D : Int → Int) (T : List Int) (m : List (Int × Int)) : Prop where
  get : ∀ t, mget t m = if t ∈ T then some (D t) else none
  out : ∀ t, t ∉ T → D t = 0
  nd : T.Pairwise (· ≠ ·)
theorem InvD.zero : InvD (fun _ => 0) [] [] := ⟨fun t => rfl, fun _ _ => rfl, List.Pairwise.nil⟩
theorem InvD.val {D : Int → Int} {T : List Int} {m : List (Int × Int)} (h : InvD D T m) (t : Int) : (mget t m).getD 0 = D t := by
  rw [h.get t]
  split
  · rfl
  · rename_i hn; rw [h.out t hn]; rfl
theorem InvD.step {D : Int → Int} {T : List Int} {m : List (Int × Int)} (h : InvD D T m) (t d : Int) : InvD (fun x => D x + if x = t then d else 0) (noteT m T t) (mset t ((mget t m).getD 0 + d) m) ∧ (∀ x, x ∈ noteT m T t ↔ x ∈ T ∨ x = t) ∧ (noteT m T t).length ≤ T.length + 1 := by
  have hm : ∀ x, x ∈ noteT m T t ↔ x ∈ T ∨ x = t := fun x => by
    unfold noteT
    rw [h.get t]
    by_cases ht : t ∈ T
    · rw [if_pos ht, if_neg (by simp)]
      constructor
      · exact .inl
      · rintro (h | rfl) <;> assumption
    · rw [if_neg ht, if_pos rfl]; simp
  refine ⟨⟨fun x => ?_, fun x hx => ?_, ?_⟩, hm, ?_⟩
  · rw [mget_mset, h.val, h.get x]
    by_cases hx : x = t
    · subst hx
      rw [if_pos rfl, if_pos ((hm x).2 (.inr rfl))]; simp
    · rw [if_neg hx]
      by_cases hT : x ∈ T
      · rw [if_pos hT, if_pos ((hm x).2 (.inl hT))]; simp [hx]
      · rw [if_neg hT, if_neg (fun hh => by rcases (hm x).1 hh with h | h <;> contradiction)]
  · have hx1 : x ∉ T := fun hh => hx ((hm x).2 (.inl hh))
    have hx2 : x ≠ t := fun hh => hx ((hm x).2 (.inr hh))
    rw [h.out x hx1, if_neg hx2]; rfl
  · unfold noteT
    rw [h.get t]
    by_cases ht : t ∈ T
    · rw [if_pos ht, if_neg (by simp)]; exact h.nd
    · rw [if_neg ht, if_pos rfl]
      refine List.pairwise_append.2 ⟨h.nd, by simp, fun a ha b hb => ?_⟩
      simp at hb; subst hb
      intro e; subst e; exact ht ha
  · unfold noteT
    split <;> simp
theorem delta_snoc (n x : Int) (h : Hd) : ∀ l : List Hd, delta (l ++ [h]) n x = delta l n x + if h.n = n then (if h.a = x then h.s else 0) - (if h.b = x then h.s else 0) else 0
  | [] => by simp [delta]
  | g :: l => by
    have ih := delta_snoc n x h l
    simp only [List.cons_append, delta, ih]
    omega
theorem tmH_snoc (n x : Int) (h : Hd) (l : List Hd) : x ∈ tmH (l ++ [h]) n ↔ x ∈ tmH l n ∨ (h.n = n ∧ (x = h.a ∨ x = h.b)) := by
  rw [mem_tmH, mem_tmH]
  constructor
  · rintro ⟨g, hg, k⟩
    rcases List.mem_append.1 hg with hg | hg
    · exact .inl ⟨g, hg, k⟩
    · simp at hg; subst hg; exact .inr k
  · rintro (⟨g, hg, k⟩ | k)
    · exact ⟨g, by simp [hg], k⟩
    · exact ⟨h, by simp, k⟩
structure InvL (l : List Hd) (n : Int) (T : List Int) (m : List (Int × Int)) : Prop where
  d : InvD (delta l n) T m
  mem : ∀ x, x ∈ T ↔ x ∈ tmH l n
  len : T.length ≤ 2 * l.length
theorem InvL.zero (n : Int) : InvL [] n [] [] := ⟨InvD.zero, fun x => by simp [tmH], by simp⟩
theorem InvL.skip {l : List Hd} {n : Int} {T : List Int} {m : List (Int × Int)} {h : Hd} (H : InvL l n T m) (hn : h.n ≠ n) : InvL (l ++ [h]) n T m := by
  refine ⟨?_, fun x => ?_, by have := H.len; simp; omega⟩
  · have e : delta (l ++ [h]) n = delta l n := by funext x; rw [delta_snoc, if_neg hn]; omega
    rw [e]; exact H.d
  · rw [tmH_snoc, H.mem x]; simp [hn]
theorem InvL.note {l : List Hd} {n : Int} {T : List Int} {m : List (Int × Int)} {h : Hd} (H : InvL l n T m) (hn : h.n = n) :
    let m1 := mset h.a ((mget h.a m).getD 0 + h.s) m
    let T1 := noteT m T h.a
    InvL (l ++ [h]) n (noteT m1 T1 h.b) (mset h.b ((mget h.b m1).getD 0 + -h.s) m1) := by
  intro m1 T1
  obtain ⟨d1, e1, l1⟩ := H.d.step h.a h.s
  obtain ⟨d2, e2, l2⟩ := d1.step h.b (-h.s)
  refine ⟨?_, fun x => ?_, ?_⟩
  · have e : delta (l ++ [h]) n = fun x => (fun x => delta l n x + if x = h.a then h.s else 0) x + if x = h.b then -h.s else 0 := by
      funext x
      rw [delta_snoc, if_pos hn]
      dsimp only
      by_cases ha : h.a = x <;> by_cases hb : h.b = x
      · rw [if_pos ha, if_pos hb, if_pos ha.symm, if_pos hb.symm]; omega
      · rw [if_pos ha, if_neg hb, if_pos ha.symm, if_neg (fun e => hb e.symm)]; omega
      · rw [if_neg ha, if_pos hb, if_neg (fun e => ha e.symm), if_pos hb.symm]; omega
      · rw [if_neg ha, if_neg hb, if_neg (fun e => ha e.symm), if_neg (fun e => hb e.symm)]; omega
    rw [e]; exact d2
  · rw [e2, e1, tmH_snoc, H.mem x]
    constructor
    · rintro ((h | h) | h)
      · exact .inl h
      · exact .inr ⟨hn, .inl h⟩
      · exact .inr ⟨hn, .inr h⟩
    · rintro (h | ⟨_, h | h⟩)
      · exact .inl (.inl h)
      · exact .inl (.inr h)
      · exact .inr h
  · have := H.len
    show (noteT (mset h.a ((mget h.a m).getD 0 + h.s) m) (noteT m T h.a) h.b).length ≤ _
    rw [List.length_append, List.length_singleton]; omega
theorem InvL.sorted {l : List Hd} {n : Int} {T : List Int} {m : List (Int × Int)} (H : InvL l n T m) : (T.mergeSort fun x y => decide (x ≤ y)) = hts l n := by
  obtain ⟨h1, h2⟩ := hts_sa l n
  have hp : (T.mergeSort fun x y => decide (x ≤ y)).Pairwise (· ≤ ·) := by
    have := List.pairwise_mergeSort (le := fun x y : Int => decide (x ≤ y)) (by intro a b c h1 h2; simp at *; omega) (by intro a b; simp; omega) T
    exact this.imp (fun h => by simpa using h)
  have hn : (T.mergeSort fun x y => decide (x ≤ y)).Pairwise (· ≠ ·) := (List.mergeSort_perm T _).symm.pairwise H.d.nd (fun h => Ne.symm h)
  refine SA.unique ?_ h1 (fun x => ?_)
  · exact (hp.and hn).imp (fun ⟨a, b⟩ => by omega)
  · rw [List.mem_mergeSort, h2 x, H.mem x]
theorem stored_snoc (n t : Int) (h : Hd) : ∀ l : List Hd, stored (l ++ [h]) n t = stored l n t + if h.n = n ∧ h.a ≤ t ∧ t < h.b then h.s else 0
  | [] => by simp [stored]
  | g :: l => by
    have ih := stored_snoc n t h l
    simp only [List.cons_append, stored, ih]
    omega
def mostL (f : List Lv) : Int := f.foldl (fun n x => max n x.v) 0
theorem mostL_take {f : List Lv} {k : Nat} {x : Lv} (h : f[k]? = some x) : mostL (f.take (k + 1)) = max (mostL (f.take k)) x.v := by
  obtain ⟨hk, rfl⟩ := List.getElem?_eq_some_iff.1 h
  unfold mostL
  rw [List.take_succ_eq_append_getElem hk, List.foldl_append]; rfl
structure InvN (l : List Hd) (n t nx : Int) : Prop where
  no : nx < 0 → nx = -1 ∧ ∀ x ∈ tmH l n, x ≤ t
  yes : 0 ≤ nx → nx ∈ tmH l n ∧ t < nx ∧ ∀ x ∈ tmH l n, t < x → nx ≤ x
theorem InvN.zero (n t : Int) : InvN [] n t (-1) := ⟨fun _ => ⟨rfl, fun x hx => by simp [tmH] at hx⟩, fun h => by omega⟩
theorem InvN.skip {l : List Hd} {n t nx : Int} {h : Hd} (H : InvN l n t nx) (hn : h.n ≠ n) : InvN (l ++ [h]) n t nx := by
  refine ⟨fun k => ⟨(H.no k).1, fun x hx => ?_⟩, fun k => ⟨(tmH_snoc _ _ _ _).2 (.inl (H.yes k).1), (H.yes k).2.1, fun x hx => ?_⟩⟩
  · rcases (tmH_snoc _ _ _ _).1 hx with hx | hx
    · exact (H.no k).2 x hx
    · exact absurd hx.1 hn
  · rcases (tmH_snoc _ _ _ _).1 hx with hx | hx
    · exact (H.yes k).2.2 x hx
    · exact absurd hx.1 hn
def pickN (t nx x : Int) : Int := if t < x ∧ (nx < 0 ∨ x < nx) then x else nx
theorem InvN.note {l : List Hd} {n t nx : Int} {h : Hd} (H : InvN l n t nx) (hn : h.n = n) (h0 : 0 ≤ h.a ∧ 0 ≤ h.b) : InvN (l ++ [h]) n t (pickN t (pickN t nx h.a) h.b) := by
  have hm : ∀ x, x ∈ tmH (l ++ [h]) n ↔ x ∈ tmH l n ∨ x = h.a ∨ x = h.b := fun x => by rw [tmH_snoc]; simp [hn]
  unfold pickN
  by_cases c1 : t < h.a ∧ (nx < 0 ∨ h.a < nx)
  · rw [if_pos c1]
    by_cases c2 : t < h.b ∧ (h.a < 0 ∨ h.b < h.a)
    · rw [if_pos c2]
      refine ⟨fun k => by omega, fun _ => ⟨(hm _).2 (by simp), c2.1, fun x hx hx2 => ?_⟩⟩
      rcases (hm _).1 hx with hx | hx | hx
      · by_cases hk : nx < 0
        · have := (H.no hk).2 x hx; omega
        · have := (H.yes (by omega)).2.2 x hx hx2; omega
      · omega
      · omega
    · rw [if_neg c2]
      refine ⟨fun k => by omega, fun _ => ⟨(hm _).2 (by simp), c1.1, fun x hx hx2 => ?_⟩⟩
      rcases (hm _).1 hx with hx | hx | hx
      · by_cases hk : nx < 0
        · have := (H.no hk).2 x hx; omega
        · have := (H.yes (by omega)).2.2 x hx hx2; omega
      · omega
      · omega
  · rw [if_neg c1]
    by_cases c2 : t < h.b ∧ (nx < 0 ∨ h.b < nx)
    · rw [if_pos c2]
      refine ⟨fun k => by omega, fun _ => ⟨(hm _).2 (by simp), c2.1, fun x hx hx2 => ?_⟩⟩
      rcases (hm _).1 hx with hx | hx | hx
      · by_cases hk : nx < 0
        · have := (H.no hk).2 x hx; omega
        · have := (H.yes (by omega)).2.2 x hx hx2; omega
      · omega
      · omega
    · rw [if_neg c2]
      refine ⟨fun k => ⟨(H.no k).1, fun x hx => ?_⟩, fun k => ⟨(hm _).2 (.inl (H.yes k).1), (H.yes k).2.1, fun x hx hx2 => ?_⟩⟩
      · rcases (hm _).1 hx with hx | hx | hx
        · exact (H.no k).2 x hx
        · omega
        · omega
      · rcases (hm _).1 hx with hx | hx | hx
        · exact (H.yes k).2.2 x hx hx2
        · omega
        · omega
theorem SA.gap {ts : List Int} (h : SA ts) {k : Nat} (hk : k < ts.length) {x : Int} (hx : x ∈ ts) : (0 < k ∧ x ≤ ts.getD (k - 1) 0) ∨ ts[k] ≤ x := by
  obtain ⟨j, hj, rfl⟩ := List.getElem_of_mem hx
  have hp := List.pairwise_iff_getElem.1 h
  by_cases hjk : j < k
  · left
    refine ⟨by omega, ?_⟩
    rw [List.getD_eq_getElem?_getD, List.getElem?_eq_getElem (by omega : k - 1 < ts.length)]
    by_cases e : j = k - 1
    · subst e; simp
    · have := hp j (k - 1) hj (by omega) (by omega)
      simp; omega
  · right
    by_cases e : j = k
    · subst e; omega
    · have := hp k j hk hj (by omega)
      omega
theorem stored_next {l : List Hd} {n : Int} {nq : Nat} (hok : ∀ h ∈ l, okHd nq h) {k : Nat} (hk : k < (hts l n).length) : stored l n (hts l n)[k] = prevF (stored l n) (hts l n) k + delta l n (hts l n)[k] := by
  obtain ⟨h1, h2⟩ := hts_sa l n
  have hmem : ∀ h ∈ l, h.n = n → h.a ∈ hts l n ∧ h.b ∈ hts l n := fun h hl hn => ⟨(h2 _).2 (mem_tmH.2 ⟨h, hl, hn, .inl rfl⟩), (h2 _).2 (mem_tmH.2 ⟨h, hl, hn, .inr rfl⟩)⟩
  by_cases h0 : k = 0
  · subst h0
    have e : stored l n (-1) = 0 := stored_early (fun h hl hn => by have := (hok h hl).2.1; omega)
    have ht : (-1 : Int) < (hts l n)[0] := by
      obtain ⟨h, hl, hn, hx⟩ := mem_tmH.1 ((h2 _).1 (List.getElem_mem hk))
      have := (hok h hl).2.1
      rcases hx with hx | hx <;> omega
    have := stored_step ht (l := l) (n := n) (fun h hl hn => by
      have hv := (hok h hl).2.1
      obtain ⟨ma, mb⟩ := hmem h hl hn
      rcases h1.gap hk ma with g | g
      · omega
      · rcases h1.gap hk mb with g2 | g2
        · omega
        · omega)
    rw [this, e]; unfold prevF; rw [if_pos rfl]
  · have hk1 : k - 1 < (hts l n).length := by omega
    have hlt : (hts l n)[k - 1] < (hts l n)[k] := List.pairwise_iff_getElem.1 h1 (k - 1) k hk1 hk (by omega)
    have hd : (hts l n).getD (k - 1) 0 = (hts l n)[k - 1] := by rw [List.getD_eq_getElem?_getD, List.getElem?_eq_getElem hk1]; rfl
    unfold prevF
    rw [if_neg h0, hd]
    refine stored_step hlt (fun h hl hn => ?_)
    have hv := (hok h hl).2.1
    obtain ⟨ma, mb⟩ := hmem h hl hn
    have g := h1.gap hk ma
    have g2 := h1.gap hk mb
    rw [hd] at g g2
    omega
theorem hts_len (l : List Hd) (n : Int) {T : List Int} {m : List (Int × Int)} (H : InvL l n T m) : (hts l n).length ≤ 2 * l.length := by
  rw [← H.sorted, List.length_mergeSort]; exact H.len
end Go.Step
/- What a node stores, by a map of changes. -/
namespace Go.Proofs.YtijheemiknkleaaGreatDoor
open Go.Eng Go.Step
set_option maxRecDepth 100000
set_option maxHeartbeats 4000000

set_option maxHeartbeats 16000000 in
theorem note_spec (bm bt b : Nat) (m : List (Int × Int)) (T : List Int) (u : Value) (σ : PH) (t d : Int) (hO : OwnS 3 1 u T.length (T.flatMap Eng.encI) σ) (hT : T.length ≤ 100000) (hd : -4611686018427387904 ≤ (mget t m).getD 0 + d ∧ (mget t m).getD 0 + d ≤ 4611686018427387904) :
  Eng.Spec Tryz.prog (.func (.func 138) #[] #[.pointer (some ⟨bm, 0, none⟩), .pointer (some ⟨bt, 0, none⟩)]) [int t, int d] [] [sng bm (.cells #[.map (some b)] 235 (0, 0)), sng b (mapO m), sng bt (.cells #[u] 22 (0, 0)), σ]
   (fun r H' => r = .tuple #[] ∧ ∃ u' σ', OwnS 3 1 u' (noteT m T t).length ((noteT m T t).flatMap Eng.encI) σ' ∧ H' = [sng bm (.cells #[.map (some b)] 235 (0, 0)), sng b (mapO (mset t ((mget t m).getD 0 + d) m)), sng bt (.cells #[u'] 22 (0, 0)), σ']) := by
 obtain ⟨pu, cu, rfl⟩ := SlAt.cap hO.at
 refine spec_in (cap := [.pointer (some ⟨bm, 0, none⟩), .pointer (some ⟨bt, 0, none⟩)]) Tryz.func138 rfl rfl Tryz.ntmps138 rfl envZ (fun N β => ?_)
 unfold noteT
 cases hm : mget t m with
 | some w =>
  rw [hm] at hd
  rw [if_neg (by simp)]
  refine AB ?_
  refine AB ?_
  refine AA ?_
  refine AF ?_
  refine AC ?_
  focus ((refine' CD _ rfl rfl rfl _; rotate_left; (apply DO (l := m); exact rfl; exact rfl; exact rfl; exact rfl; exact rfl; exact mapAt_own memZ); rw [hm]))
  refine AC ?_
  refine AX ?_
  refine AX ?_
  refine AD ?_
  refine AD ?_
  refine AE ?_
  refine AB ?_
  refine AA ?_
  refine AC ?_
  refine BZ ?_
  refine AE ?_
  refine AM rfl ?_
  refine AL ?_
  refine AA ?_
  refine AF ?_
  refine AC ?_
  focus ((refine' CD _ rfl rfl rfl _; rotate_left; (apply CX (l := m); exact rfl; exact rfl; exact rfl; exact rfl; exact rfl; exact mapAt_own memZ); rw [hm]))
  refine AC ?_
  refine CS ?_
  focus ((refine' CI _ rfl rfl _; rotate_left; (apply DA (l := m); exact rfl; exact rfl; exact rfl; exact rfl; exact rfl; exact takeZ); rintro _ _ ⟨rfl, rfl⟩))
  refine AE ?_
  exact BV (res0 rfl) rsubZ selZ ⟨rfl, _, _, hO, rfl⟩
 | none =>
  rw [hm] at hd
  rw [if_pos rfl]
  refine AB ?_
  refine AB ?_
  refine AA ?_
  refine AF ?_
  refine AC ?_
  focus ((refine' CD _ rfl rfl rfl _; rotate_left; (apply DO (l := m); exact rfl; exact rfl; exact rfl; exact rfl; exact rfl; exact mapAt_own memZ); rw [hm]))
  refine AC ?_
  refine AX ?_
  refine AX ?_
  refine AD ?_
  refine AD ?_
  refine AE ?_
  refine AB ?_
  refine AA ?_
  refine AC ?_
  refine BZ ?_
  refine AE ?_
  refine AQ rfl ?_
  refine AA ?_
  refine AF ?_
  refine AC ?_
  refine BR ?_; rintro _ _ ⟨b, rfl, rfl⟩
  refine BF (B5 (by_ := 8) (s := 1) (news := [int t]) rfl rfl rfl rfl rfl rfl rfl hO takeZ (cells_own memZ) rfl (by (repeat (first | exact (fun v hv => absurd hv List.not_mem_nil) | (refine List.forall_mem_cons.2 ⟨?_, ?_⟩; (focus (first | exact rfl | assumption))))); first | done | fail) (by omega) (by simp only [maxLen]; omega) (by omega)) rfl rfl rfl ?_
  rintro u1 _ ⟨σ1, hO1, rfl⟩
  have hu1 : u1.oneCell' = true := by obtain ⟨p, c, rfl⟩ := SlAt.cap hO1.at; rfl
  refine BH ?_; rintro _ _ ⟨rfl, rfl⟩
  refine AE ?_
  refine AA ?_
  refine AF ?_
  refine AC ?_
  focus ((refine' CD _ rfl rfl rfl _; rotate_left; (apply CX (l := m); exact rfl; exact rfl; exact rfl; exact rfl; exact rfl; exact mapAt_own memZ); rw [hm]))
  refine AC ?_
  refine CS ?_
  focus ((refine' CI _ rfl rfl _; rotate_left; (apply DA (l := m); exact rfl; exact rfl; exact rfl; exact rfl; exact rfl; exact takeZ); rintro _ _ ⟨rfl, rfl⟩))
  refine AE ?_
  refine BV (res0 rfl) rsubZ selZ ⟨rfl, u1, σ1, ?_, rfl⟩
  rw [List.length_append, List.flatMap_append]
  exact hO1
end Go.Proofs.YtijheemiknkleaaGreatDoor
/- The library's sort of numbers, as a contract of this engine. No conditions. -/
namespace Go.Eng
open Go.Sort
theorem calls_v {P : Program} {f : FuncId} {fn : Func} {c : Code} {args : List Value} {w : World} {R : Value → World → Prop} (hf : P.funcs[f]? = some fn) (hb : fn.body = some c) (hname : (fn.name == "runtime.NumGoroutine") = false)
    (h : Calls P f args.toArray w (fun e w' => ∃ v, e = .returned v ∧ R v w')) : CallsV P (fv f) args w R := by
  unfold CallsV
  have hrun : ((do let d ← Deferred.ofValue (fv f) args.toArray; invoke d.target d.args : Sem Next).run P w) = .ok (.enter f args.toArray) w := by
    have hname' : ¬ fn.name = "runtime.NumGoroutine" := by simpa using hname
    simp [Deferred.ofValue, invoke, callFunc, program, Sem.run, bind, Sem.bind, pure, hf, hb, hname']
  rw [hrun]
  exact callsIn_wide.2 h
abbrev sortd (l : List Int) : List Int := l.mergeSort fun x y => decide (x ≤ y)
theorem flatI (l : List Int) : l.flatMap encI = l.map (Value.int .i64) := by induction l <;> simp_all [encI]
theorem sortI_of {P : Program} {f : FuncId} {fn : Func} {c : Code} (hf : P.funcs[f]? = some fn) (hb : fn.body = some c) (hname : (fn.name == "runtime.NumGoroutine") = false)
    (hany : ∀ (blk cap : Nat) (zs : List Int) (w : World), Holds (Value.int .i64) w blk 0 zs.toArray → blk < w.heap.size → zs.length < 4611686018427387904 →
      Calls P f #[.slice (some ⟨blk, 0, none⟩) zs.length cap] w (fun e w' => e = .returned (.tuple #[]) ∧ ∃ n os, w' = grow (putRow (Value.int .i64) (Sort.ahead w n) blk 0 (sortd zs).toArray) os))
    (hnone : ∀ (p : Option Addr) (cap : Nat) (w : World), Calls P f #[.slice p 0 cap] w (fun e w' => e = .returned (.tuple #[]) ∧ w' = w))
    {e : TypeId} {σ : PH} {v : Value} {l : List Int} (hO : OwnS e 1 v l.length (l.flatMap encI) σ) (hl : l.length < 4611686018427387904) :
    Spec P (fv f) [v] [] [σ] (fun r H' => r = .tuple #[] ∧ ∃ σ', OwnS e 1 v (sortd l).length ((sortd l).flatMap encI) σ' ∧ H' = [σ']) := by
  have hsl : (sortd l).length = l.length := List.length_mergeSort ..
  intro N w hs
  obtain ⟨β, hsat, hup⟩ := exists_base hs
  rcases hO.block with ⟨rfl, rfl, rfl⟩ | ⟨b, cap, cur, rfl, rfl, h1, h2, h3, h4⟩
  · refine calls_v hf hb hname (Calls.mono (hnone none 0 w) ?_)
    rintro _ _ ⟨rfl, rfl⟩
    exact ⟨_, rfl, [emp], ⟨rfl, emp, by simpa [sortd] using OwnS.nil e 1, rfl⟩, hup _ _ hsat⟩
  · have hg : w.heap[b]? = some (.cells cur e (0, 0)) := hs.own .here
    have hblt : b < w.heap.size := (Array.getElem?_eq_some_iff.1 hg).1
    rw [Nat.mul_one, flatI] at h4
    rw [Nat.mul_one] at h3
    have hH : Holds (Value.int .i64) w b 0 l.toArray := by
      intro j hj
      simp only [List.size_toArray] at hj
      have hj' : (cur.toList.take l.length)[j]? = some (Value.int .i64 l[j]) := by rw [h4, List.getElem?_map, List.getElem?_eq_getElem hj]; rfl
      rw [List.getElem?_take_of_lt hj, Array.getElem?_toList] at hj'
      refine ⟨?_, ?_⟩
      · rw [cell_of_row w b _ cur e (0, 0) hg, Nat.zero_add, hj']
        simp [hj]
      · simp [World.frozen?, hg]
    refine calls_v hf hb hname (Calls.mono (hany b cap l w hH hblt hl) ?_)
    rintro _ _ ⟨rfl, n, os, rfl⟩
    have hheap : (grow (putRow (Value.int .i64) (Sort.ahead w n) b 0 (sortd l).toArray) os).heap = (w.heap.modify b (onCells (putCells (Value.int .i64) 0 (sortd l).toArray))) ++ os := rfl
    refine ⟨_, rfl, [sng b (.cells (putCells (Value.int .i64) 0 (sortd l).toArray cur) e (0, 0))], ⟨rfl, _, ⟨by rw [flat_len encI_len], .inr ⟨b, cap, _, by rw [hsl], rfl, by omega, h2, ?_, ?_⟩⟩, rfl⟩, ?_⟩
    · simp [putCells, h3]
    · rw [flatI, Nat.mul_one]
      exact take_putCellsI cur (sortd l) (by rw [hsl, h3]; exact h1)
    · refine ⟨⟨?_, rfl, rfl, rfl, Nat.le_add_right _ _⟩, fun k hk hno => ?_, fun ρ hρ => ?_, by simp, fun ρ hρ k hk => ?_⟩
      · rw [hheap]; simp
      · have hne : k ≠ b := fun e => by
          subst e
          have := hno (sng k (.cells cur e (0, 0))) (by simp)
          simp [sng_self] at this
        rw [hheap, Array.getElem?_append_left (by simpa using hk), Array.getElem?_modify, if_neg (Ne.symm hne)]
      · simp at hρ; subst hρ
        intro k o hk
        obtain ⟨rfl, rfl⟩ := sng_some hk
        rw [hheap, Array.getElem?_append_left (by simpa using hblt), Array.getElem?_modify, if_pos rfl, hg]
        rfl
      · simp at hρ; subst hρ
        left
        refine ⟨sng b (.cells cur e (0, 0)), by simp, ?_⟩
        cases hks : sng b (Obj.cells (putCells (Value.int .i64) 0 (sortd l).toArray cur) e (0, 0)) k with
        | none => exact absurd hks hk
        | some o =>
          obtain ⟨rfl, _⟩ := sng_some hks
          simp [sng_self]
end Go.Eng
namespace Go.Eng
open Go.Sort
end Go.Eng
/- The levels of a node, of the program. -/
namespace Go.Proofs
open Go.Shelf
def Tryz.laysSort_ren : Go.Shelf.Ren := ⟨fun | 189 => 139 | 125 => 111 | 257 => 170 | 128 => 149 | 129 => 150 | 294 => 196 | 295 => 197 | 296 => 198 | 297 => 199 | 298 => 200 | 299 => 201 | 216 => 202 | 300 => 203 | 301 => 204 | 328 => 222 | 329 => 172 | 330 => 173 | 331 => 223 | 332 => 224 | 215 => 140 | 343 => 247 | n => n, fun | 28 => 22 | 3 => 3 | 46 => 208 | 0 => 0 | 51 => 245 | 53 => 247 | 4 => 4 | 183 => 239 | 182 => 238 | 131 => 70 | 5 => 5 | 9 => 9 | 218 => 273 | 222 => 87 | 228 => 314 | 229 => 315 | n => n, fun | n => n⟩
theorem Tryz.laysSort : Go.Proofs.Lays.n189 Tryz.prog Tryz.laysSort_ren := {
 mixed := by kernel_rfl
 f125 := Tryz.func111.trans (congrArg some (by kernel_rfl))
 f128 := Tryz.func149.trans (congrArg some (by kernel_rfl))
 f129 := Tryz.func150.trans (congrArg some (by kernel_rfl))
 f189 := Tryz.func139.trans (congrArg some (by kernel_rfl))
 f215 := Tryz.func140.trans (congrArg some (by kernel_rfl))
 f216 := Tryz.func202.trans (congrArg some (by kernel_rfl))
 f257 := Tryz.func170.trans (congrArg some (by kernel_rfl))
 f294 := Tryz.func196.trans (congrArg some (by kernel_rfl))
 f295 := Tryz.func197.trans (congrArg some (by kernel_rfl))
 f296 := Tryz.func198.trans (congrArg some (by kernel_rfl))
 f297 := Tryz.func199.trans (congrArg some (by kernel_rfl))
 f298 := Tryz.func200.trans (congrArg some (by kernel_rfl))
 f299 := Tryz.func201.trans (congrArg some (by kernel_rfl))
 f300 := Tryz.func203.trans (congrArg some (by kernel_rfl))
 f301 := Tryz.func204.trans (congrArg some (by kernel_rfl))
 f328 := Tryz.func222.trans (congrArg some (by kernel_rfl))
 f329 := Tryz.func172.trans (congrArg some (by kernel_rfl))
 f330 := Tryz.func173.trans (congrArg some (by kernel_rfl))
 f331 := Tryz.func223.trans (congrArg some (by kernel_rfl))
 f332 := Tryz.func224.trans (congrArg some (by kernel_rfl))
 f343 := Tryz.func247.trans (congrArg some (by kernel_rfl))
 t0 := Tryz.underlying0
 a0 := Tryz.isAgg0
 z0 := Tryz.sizeOf0
 v0 := Tryz.zeroValue0
 t3 := Tryz.underlying3
 a3 := Tryz.isAgg3
 z3 := Tryz.sizeOf3
 v3 := Tryz.zeroValue3
 t4 := Tryz.underlying4
 a4 := Tryz.isAgg4
 z4 := Tryz.sizeOf4
 v4 := Tryz.zeroValue4
 t5 := Tryz.underlying5
 a5 := Tryz.isAgg5
 z5 := Tryz.sizeOf5
 v5 := Tryz.zeroValue5
 t9 := Tryz.underlying9
 a9 := Tryz.isAgg9
 z9 := Tryz.sizeOf9
 v9 := Tryz.zeroValue9
 t28 := Tryz.underlying22
 a28 := Tryz.isAgg22
 z28 := Tryz.sizeOf22
 v28 := Tryz.zeroValue22
 t46 := Tryz.underlying208
 a46 := Tryz.isAgg208
 z46 := Tryz.sizeOf208
 v46 := Tryz.zeroValue208
 t51 := Tryz.underlying245
 a51 := Tryz.isAgg245
 z51 := Tryz.sizeOf245
 v51 := Tryz.zeroValue245
 t53 := Tryz.underlying247
 a53 := Tryz.isAgg247
 z53 := Tryz.sizeOf247
 v53 := Tryz.zeroValue247
 t131 := Tryz.underlying70
 a131 := Tryz.isAgg70
 z131 := Tryz.sizeOf70
 v131 := Tryz.zeroValue70
 t182 := Tryz.underlying238
 a182 := Tryz.isAgg238
 z182 := Tryz.sizeOf238
 v182 := Tryz.zeroValue238
 t183 := Tryz.underlying239
 a183 := Tryz.isAgg239
 z183 := Tryz.sizeOf239
 v183 := Tryz.zeroValue239
 t218 := Tryz.underlying273
 a218 := Tryz.isAgg273
 z218 := Tryz.sizeOf273
 v218 := Tryz.zeroValue273
 t222 := Tryz.underlying87
 a222 := Tryz.isAgg87
 z222 := Tryz.sizeOf87
 v222 := Tryz.zeroValue87
 t228 := Tryz.underlying314
 a228 := Tryz.isAgg314
 z228 := Tryz.sizeOf314
 v228 := Tryz.zeroValue314
 t229 := Tryz.underlying315
 a229 := Tryz.isAgg315
 z229 := Tryz.sizeOf315
 v229 := Tryz.zeroValue315 }
end Go.Proofs
namespace Go.Proofs.YtijheemiknkleaaGreatDoor
open Go.Eng Go.Step
set_option maxRecDepth 100000
set_option maxHeartbeats 4000000

theorem sortI_spec (σ : PH) (v : Value) (l : List Int) (hO : OwnS 3 1 v l.length (l.flatMap Eng.encI) σ) (hl : l.length ≤ 1000000) :
  Eng.Spec Tryz.prog (fv 139) [v] [] [σ] (fun r H' => r = .tuple #[] ∧ ∃ σ', OwnS 3 1 v (sortd l).length ((sortd l).flatMap Eng.encI) σ' ∧ H' = [σ']) :=
 sortI_of (f := 139) Tryz.func139 rfl rfl
  (fun blk cap zs w hH hb hl => calls_of_every_depth (fun D => Go.Proofs.AnyS.slices_Sort_int_alone Tryz.laysSort D blk 0 cap zs w hH hb hl))
  (fun p cap w => calls_of_every_depth (fun D => Go.Proofs.AnyS.slices_Sort_int_none_alone Tryz.laysSort D p cap w)) hO (by omega)
def encV (l : Lv) : List Value := [int l.a, int l.v]
theorem encV_len (l : Lv) : (encV l).length = 2 := rfl
abbrev LvAt (ρ : PH) (v : Value) (f : List Lv) : Prop := SlE encV 2 ρ v f
set_option maxHeartbeats 16000000 in
theorem levels_spec (ρ : PH) (v : Value) (l : List Hd) (n : Int) (nq : Nat) (hv : HdAt ρ v l) (hok : ∀ h ∈ l, okHd nq h) (hl : l.length ≤ 600) :
  Makes Tryz.prog (fv 102) [v, int n] [ρ] (fun r σ => OwnS 197 2 r (lvH l n).length ((lvH l n).flatMap encV) σ) := by
 obtain ⟨q, c, rfl, hr⟩ := hv.val encH_len
 refine spec_in (cap := []) Tryz.func102 rfl rfl Tryz.ntmps102 rfl envZ (fun N β => ?_)
 refine CA ?_
 refine CA ?_
 refine AB ?_
 refine AA ?_
 refine AD ?_
 refine AE ?_
 refine AB ?_
 refine AA ?_
 focus ((refine' BF _ rfl rfl rfl _; rotate_left; (exact EI); rintro _ _ ⟨bb, rfl, rfl⟩))
 refine BS ?_; rintro _ _ ⟨b, rfl, rfl⟩
 refine BH ?_; rintro _ _ ⟨rfl, rfl⟩
 refine AE ?_
 refine AB ?_
 refine AA ?_
 refine BS ?_; rintro _ _ ⟨b, rfl, rfl⟩
 refine AE ?_
 refine AB ?_
 refine AA ?_
 refine BX ?_
 refine AD ?_
 refine AE ?_
 refine AB ?_
 refine AB ?_
 refine AA ?_
 refine AC ?_
 refine AY ?_
 refine AC ?_
 refine AE ?_
 refine AV ?_
 revert b; intro bt
 revert b; intro bm
 refine BM [1, 5, 6, 7, 16, 17] (X := Nat × (List (Int × Int) × (List Int × (Value × PH)))) (0, ([], ([], (.slice none 0 0, emp)))) (fun x => x.1 ≤ l.length ∧ InvL (l.take x.1) n x.2.2.1 x.2.1 ∧ OwnS 3 1 x.2.2.2.1 x.2.2.1.length (x.2.2.1.flatMap Eng.encI) x.2.2.2.2) (fun x => [(18, int x.1)]) (fun x => [sng bm (.cells #[.map (some bb)] 235 (0, 0)), sng bb (mapO x.2.1), sng bt (.cells #[x.2.2.2.1] 22 (0, 0)), x.2.2.2.2, emp]) (fun x => l.length - x.1)
  pickZ ⟨by dsimp only; omega, InvL.zero n, OwnS.nil _ _⟩ covZ selZ ?_
 rintro ⟨k, m, T, u, σ⟩ ⟨hk, hI, hO⟩
 dsimp only at hk hI hO ⊢
 by_cases hlt : k < l.length
 ·have hx := List.getElem?_eq_getElem hlt
  have hh := hok _ (List.getElem_mem hlt)
  obtain ⟨b2, o2, rfl, hrd⟩ := hdRow hr hx
  have htk : l.take (k + 1) = l.take k ++ [l[k]] := List.take_succ_eq_append_getElem hlt
  have hTl := hI.len
  rw [List.length_take, Nat.min_eq_left hk] at hTl
  have hdb : ∀ t, -39321600 ≤ delta (l.take k) n t ∧ delta (l.take k) n t ≤ 39321600 := fun t => by
   have := delta_bd (n := n) (t := t) (l := l.take k) (fun h hm => hok h (List.mem_of_mem_take hm))
   rw [List.length_take, Nat.min_eq_left hk] at this
   omega
  obtain ⟨hh1, hh2, hh3, hh4⟩ := hh
  generalize l[k] = h at hrd htk hh1 hh2 hh3 hh4
  by_cases hn : h.n = n
  ·have hI2 := hI.note hn
   rw [← htk] at hI2
   obtain ⟨d1, _, l1⟩ := hI.d.step h.a h.s
   have hv1 := hI.d.val h.a
   have hv2 := d1.val h.b
   have b1 := hdb h.a
   have b2' := hdb h.b
   have r1 : -4611686018427387904 ≤ (mget h.a m).getD 0 + h.s ∧ (mget h.a m).getD 0 + h.s ≤ 4611686018427387904 := by rw [hv1]; omega
   have r2 : -4611686018427387904 ≤ (mget h.b (mset h.a ((mget h.a m).getD 0 + h.s) m)).getD 0 + -h.s ∧ (mget h.b (mset h.a ((mget h.a m).getD 0 + h.s) m)).getD 0 + -h.s ≤ 4611686018427387904 := by
    rw [hv2]
    split <;> omega
   refine AB ?_
   refine AA ?_
   refine BI ?_
   refine AE ?_
   refine AB ?_
   refine AQ rfl ?_
   refine AL ?_
   refine AB ?_
   refine AV ?_
   refine AB ?_
   refine AA ?_
   refine A9 ?_
   refine AN ?_
   refine A4 ?_; rintro _ _ ⟨b, rfl, rfl⟩
   refine A2 ?_; rintro _ _ ⟨rfl, rfl⟩
   refine AE ?_
   refine AB ?_
   refine AA ?_
   refine AG ?_
   refine AF ?_
   refine AC ?_
   refine CB ?_
   refine AE ?_
   refine AQ rfl ?_
   refine AB ?_
   refine AA ?_
   refine AC ?_
   refine AG ?_
   refine AF ?_
   refine AG ?_
   refine AF ?_
   refine BT (note_spec bm bt bb m T u σ h.a h.s hO (by omega) r1) rfl rfl takesZ (fun τ hτ => by simp at hτ) rfl rfl ?_
   rintro _ _ ⟨rfl, u1, σ1, hO1, rfl⟩
   refine AE ?_
   refine AA ?_
   refine AC ?_
   refine AG ?_
   refine AF ?_
   refine AG ?_
   refine AF ?_
   refine zq_neg ?_
   refine BT (note_spec bm bt bb _ _ u1 σ1 h.b (-h.s) hO1 (by omega) r2) rfl rfl takesZ (fun τ hτ => by simp at hτ) rfl rfl ?_
   rintro _ _ ⟨rfl, u2, σ2, hO2, rfl⟩
   refine AE ?_
   refine A8 ?_
   refine AA ?_
   refine BD ?_
   refine AC ?_
   refine AE ?_
   exact A5 (k + 1, (_, (_, (u2, σ2)))) ⟨by dsimp only; omega, hI2, hO2⟩ (by dsimp only; omega) covZ selZ
  ·have hI2 := hI.skip hn
   rw [← htk] at hI2
   refine AB ?_
   refine AA ?_
   refine BI ?_
   refine AE ?_
   refine AB ?_
   refine AQ rfl ?_
   refine AL ?_
   refine AB ?_
   refine AV ?_
   refine AB ?_
   refine AA ?_
   refine A9 ?_
   refine AN ?_
   refine A4 ?_; rintro _ _ ⟨b, rfl, rfl⟩
   refine A2 ?_; rintro _ _ ⟨rfl, rfl⟩
   refine AE ?_
   refine AB ?_
   refine AA ?_
   refine AG ?_
   refine AF ?_
   refine AC ?_
   refine B4 ?_
   refine AE ?_
   refine AM rfl ?_
   refine AL ?_
   refine A8 ?_
   refine AA ?_
   refine BD ?_
   refine AC ?_
   refine AE ?_
   exact A5 (k + 1, (m, (T, (u, σ)))) ⟨by dsimp only; omega, hI2, hO⟩ (by dsimp only; omega) covZ selZ
 have hke : k = l.length := by omega
 subst hke
 rw [List.take_length] at hI
 have hTl := hI.len
 have hs := hI.sorted
 have htl := hts_len l n hI
 obtain ⟨pu, cu, rfl⟩ := SlAt.cap hO.at
 refine AB ?_
 refine AA ?_
 refine AZ ?_
 refine AE ?_
 refine AB ?_
 refine AM rfl ?_
 refine BE rfl ?_
 refine AB ?_
 refine AA ?_
 refine AF ?_
 refine BT (sortI_spec σ _ T hO (by omega)) rfl rfl takesZ (fun τ hτ => by simp at hτ) rfl rfl ?_
 rintro _ _ ⟨rfl, σs, hS, rfl⟩
 have hSd : sortd T = hts l n := hs
 rw [hSd] at hS
 have htl2 : T.length = (hts l n).length := by rw [← hSd, List.length_mergeSort]
 rw [htl2] at hS
 have hNs : IntsAt σs _ (Step.hts l n) := hS.at
 obtain ⟨_, _, e, hrs⟩ := hNs.val Eng.encI_len
 simp only [Value.slice.injEq] at e
 obtain ⟨rfl, _, rfl⟩ := e
 have hsb : ∀ t, 0 ≤ Step.stored l n t ∧ Step.stored l n t ≤ 39321600 := fun t => by
  have := stored_bd (n := n) (t := t) hok
  omega
 have hnx := @stored_next l n nq hok
 have hget := hI.d.val
 unfold lvH
 rw [htl2]
 generalize Step.hts l n = ts at hS htl2 hNs hrs hnx htl
 refine AU (ρ := sng bm (.cells #[.map (some bb)] 235 (0, 0))) takeZ ?_
 have cm : rdc (sng bm (.cells #[.map (some bb)] 235 (0, 0))) bm 0 = some (.map (some bb)) := by rw [rdc_sng]; rfl
 refine AU (ρ := sng bb (mapO m)) takeZ ?_
 refine AU (ρ := σs) takeZ ?_
 refine AE ?_
 refine AB ?_
 refine AA ?_
 refine AD ?_
 refine AE ?_
 refine AB ?_
 refine AA ?_
 refine AD ?_
 refine AE ?_
 refine AB ?_
 refine AB ?_
 refine AA ?_
 refine AF ?_
 refine AY ?_
 refine AC ?_
 refine AE ?_
 refine AV ?_
 refine BM [5, 42, 43] (X := Nat × (Value × PH)) (0, (.slice none 0 0, emp)) (fun x => x.1 ≤ ts.length ∧ OwnS 197 2 x.2.1 (comb (Step.stored l n) 0 (ts.take x.1)).length ((comb (Step.stored l n) 0 (ts.take x.1)).flatMap encV) x.2.2) (fun x => [(44, int x.1), (10, x.2.1), (11, int (prevF (Step.stored l n) ts x.1))]) (fun x => [x.2.2]) (fun x => ts.length - x.1)
  pickZ ⟨by dsimp only; omega, OwnS.nil _ _⟩ covZ selZ ?_
 rintro ⟨k, u, σ'⟩ ⟨hk', hO'⟩
 dsimp only at hk' hO' ⊢
 by_cases hlt' : k < ts.length
 ·have hx := List.getElem?_eq_getElem hlt'
  obtain ⟨b2, o2, rfl, g1⟩ := hrs.int hx
  have hsn := comb_snoc (Step.stored l n) hx
  have hnk := hnx hlt'
  have hpn : prevF (Step.stored l n) ts (k + 1) = Step.stored l n ts[k] := by
   unfold prevF
   rw [if_neg (by omega), List.getD_eq_getElem?_getD, Nat.add_sub_cancel, hx]; rfl
  have hp1 : 0 ≤ prevF (Step.stored l n) ts k ∧ prevF (Step.stored l n) ts k ≤ 39321600 := by
   unfold prevF
   split
   ·omega
   ·exact hsb _
  generalize ts[k] = t at g1 hsn hnk hpn
  have hg := hget t
  have hst := hsb t
  have hcl := comb_len (Step.stored l n) (ts.take k) 0
  rw [List.length_take, Nat.min_eq_left hk'] at hcl
  generalize prevF (Step.stored l n) ts k = p at hsn hnk hp1
  obtain ⟨pu', cu', rfl⟩ := SlAt.cap hO'.at
  by_cases hz : delta l n t = 0
  ·rw [if_pos (by omega), List.append_nil] at hsn
   refine AB ?_
   refine AA ?_
   refine BI ?_
   refine AE ?_
   refine AB ?_
   refine AQ rfl ?_
   refine AL ?_
   refine AB ?_
   refine AV ?_
   refine AB ?_
   refine AA ?_
   refine B9 ?_
   refine AF ?_
   refine AD ?_
   refine AE ?_
   refine AB ?_
   refine AB ?_
   refine AA ?_
   refine AF ?_
   refine AC ?_
   focus ((refine' CD _ rfl rfl rfl _; rotate_left; (apply CX (l := m); exact rfl; exact rfl; exact rfl; exact rfl; exact rfl; exact mapAt_rd memZ); rw [hg]))
   refine CB ?_
   refine AE ?_
   refine AQ rfl ?_
   refine BE rfl ?_
   refine AA ?_
   refine BD ?_
   refine AC ?_
   refine AE ?_
   refine A5 (k + 1, (_, σ')) ⟨by dsimp only; omega, by dsimp only; rw [hsn]; exact hO'⟩ (by dsimp only; omega) ?_ selZ
   dsimp only
   rw [hpn, show Step.stored l n t = p by omega]
   exact covZ
  ·rw [if_neg (by omega)] at hsn
   refine AB ?_
   refine AA ?_
   refine BI ?_
   refine AE ?_
   refine AB ?_
   refine AQ rfl ?_
   refine AL ?_
   refine AB ?_
   refine AV ?_
   refine AB ?_
   refine AA ?_
   refine B9 ?_
   refine AF ?_
   refine AD ?_
   refine AE ?_
   refine AB ?_
   refine AB ?_
   refine AA ?_
   refine AF ?_
   refine AC ?_
   focus ((refine' CD _ rfl rfl rfl _; rotate_left; (apply CX (l := m); exact rfl; exact rfl; exact rfl; exact rfl; exact rfl; exact mapAt_rd memZ); rw [hg]))
   refine B4 ?_
   refine AE ?_
   refine AM rfl ?_
   refine AL ?_
   refine AB ?_
   refine AA ?_
   refine AC ?_
   refine AF ?_
   refine AC ?_
   focus ((refine' CD _ rfl rfl rfl _; rotate_left; (apply CX (l := m); exact rfl; exact rfl; exact rfl; exact rfl; exact rfl; exact mapAt_rd memZ); rw [hg]))
   refine CS ?_
   refine AD ?_
   refine AE ?_
   refine AA ?_
   refine AC ?_
   refine AC ?_
   refine AC ?_
   refine CC ?_
   refine BR ?_; rintro _ _ ⟨b, rfl, rfl⟩
   rw [← hnk]
   refine BF (B5 (by_ := 16) (s := 2) (news := [int t, int (Step.stored l n t)]) rfl rfl rfl rfl rfl rfl rfl hO' takeZ (cells_own memZ) rfl (by (repeat (first | exact (fun v hv => absurd hv List.not_mem_nil) | (refine List.forall_mem_cons.2 ⟨?_, ?_⟩; (focus (first | exact rfl | assumption))))); first | done | fail) (by omega) (by simp only [maxLen]; omega) (by omega)) rfl rfl rfl ?_
   rintro u1 _ ⟨σ1, hO1, rfl⟩
   refine AD ?_
   refine AE ?_
   refine A8 ?_
   refine AA ?_
   refine BD ?_
   refine AC ?_
   refine AE ?_
   refine A5 (k + 1, (u1, σ1)) ⟨by dsimp only; omega, ?_⟩ (by dsimp only; omega) ?_ selZ
   ·dsimp only
    rw [hsn, List.length_append, List.flatMap_append]
    exact hO1
   ·dsimp only
    rw [hpn]
    exact covZ
 ·have hke : k = ts.length := by omega
  subst hke
  rw [List.take_length] at hO'
  refine AB ?_
  refine AA ?_
  refine AZ ?_
  refine AE ?_
  refine AB ?_
  refine AM rfl ?_
  refine BE rfl ?_
  refine AB ?_
  refine AA ?_
  refine AC ?_
  refine AD ?_
  refine AE ?_
  exact AI (res1 rfl rfl) rsubZ selZ ⟨σ', hO', rfl⟩
end Go.Proofs.YtijheemiknkleaaGreatDoor
