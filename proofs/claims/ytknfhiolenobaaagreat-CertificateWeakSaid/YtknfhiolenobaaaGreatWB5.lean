/- Texts of this proof, one after the other; no conditions. -/
import Derived.Test.YtknfhiolenobaaaGreatRows
import Derived.Test.YtknfhiolenobaaaGreatWB4
import Derived.Test.YtknfhiolenobaaaGreatWB2
set_option linter.all false
/- Sets of integers as spans. No program in sight. No conditions. -/
namespace Go.Step
def okSp (x : Int × Int) : Prop := x.1 < x.2 ∧ -1152921504606846976 ≤ x.1 ∧ x.2 ≤ 1152921504606846976
instance (x : Int × Int) : Decidable (okSp x) := inferInstanceAs (Decidable (_ ∧ _))
def spE (l : List (Int × Int)) (i : Nat) : Int := match l[i]? with
  | some x => if ¬ okSp x then 2 else if 0 < i ∧ x.1 ≤ (l.getD (i - 1) x).2 then 9 else 0
  | none => 0
theorem spE_at {l : List (Int × Int)} {i : Nat} {x : Int × Int} (e : l[i]? = some x) : spE l i = if ¬ okSp x then 2 else if 0 < i ∧ x.1 ≤ (l.getD (i - 1) x).2 then 9 else 0 := by unfold spE; rw [e]
def chkI (l : List (Int × Int)) : Int := if 1000 < l.length then 4 else firstE (spE l) l.length
def inSp (t : Int) (x : Int × Int) : Bool := decide (x.1 ≤ t) && decide (t < x.2)
def hasI (l : List (Int × Int)) (t : Int) : Bool := decide (chkI l = 0) && l.any (inSp t)
end Go.Step
/- Sets of integers: checked, asked. -/
namespace Go.Proofs.YtknfhiolenobaaaGreat
open Go.Eng Go.Step
set_option maxRecDepth 100000
set_option maxHeartbeats 4000000

theorem ivValid_spec (x : Int × Int) : Ans Tryz.prog (fv 51) [.agg #[int x.1, int x.2]] [] (fun r => r = .bool (decide (okSp x))) := by
 refine spec_in (cap := []) Tryz.func51 rfl rfl Tryz.ntmps51 rfl envZ (fun N β => ?_)
 by_cases h1 : x.1 < x.2
 ·by_cases h2 : -1152921504606846976 ≤ x.1
  ·by_cases h3 : x.2 ≤ 1152921504606846976
   ·rw [decide_eq_true (show okSp x from ⟨h1, h2, h3⟩)]
    refine AC ?_
    refine AA ?_
    refine BX ?_; rintro _ _ ⟨b, rfl, rfl⟩
    refine AD ?_
    refine AF ?_
    refine AC ?_
    refine AA ?_
    refine AH ?_
    refine AG ?_
    refine AH ?_
    refine AG ?_
    refine BF ?_
    refine AB ?_
    refine AH ?_
    refine AG ?_
    refine CF ?_
    refine AK ?_
    refine AB ?_
    refine AH ?_
    refine AG ?_
    refine CU ?_
    refine AK ?_
    refine AD ?_
    refine AF ?_
    exact AJ (res1 rfl rfl) rsubZ selZ ⟨rfl, rfl⟩
   ·rw [decide_eq_false (fun h : okSp x => h3 h.2.2)]
    refine AC ?_
    refine AA ?_
    refine BX ?_; rintro _ _ ⟨b, rfl, rfl⟩
    refine AD ?_
    refine AF ?_
    refine AC ?_
    refine AA ?_
    refine AH ?_
    refine AG ?_
    refine AH ?_
    refine AG ?_
    refine BF ?_
    refine AB ?_
    refine AH ?_
    refine AG ?_
    refine CF ?_
    refine AK ?_
    refine AB ?_
    refine AH ?_
    refine AG ?_
    refine CD ?_
    refine AK ?_
    refine AD ?_
    refine AF ?_
    exact AJ (res1 rfl rfl) rsubZ selZ ⟨rfl, rfl⟩
  ·rw [decide_eq_false (fun h : okSp x => h2 h.2.1)]
   refine AC ?_
   refine AA ?_
   refine BX ?_; rintro _ _ ⟨b, rfl, rfl⟩
   refine AD ?_
   refine AF ?_
   refine AC ?_
   refine AA ?_
   refine AH ?_
   refine AG ?_
   refine AH ?_
   refine AG ?_
   refine BF ?_
   refine AB ?_
   refine AH ?_
   refine AG ?_
   refine BI ?_
   refine AK ?_
   refine AB ?_
   refine AE rfl rfl rfl ?_
   refine AE rfl rfl rfl ?_
   refine AE rfl rfl rfl ?_
   refine AI ?_
   refine AD ?_
   refine AF ?_
   exact AJ (res1 rfl rfl) rsubZ selZ ⟨rfl, rfl⟩
 ·rw [decide_eq_false (fun h : okSp x => h1 h.1)]
  refine AC ?_
  refine AA ?_
  refine BX ?_; rintro _ _ ⟨b, rfl, rfl⟩
  refine AD ?_
  refine AF ?_
  refine AC ?_
  refine AA ?_
  refine AH ?_
  refine AG ?_
  refine AH ?_
  refine AG ?_
  refine AZ ?_
  refine AB ?_
  refine AE rfl rfl rfl ?_
  refine AE rfl rfl rfl ?_
  refine AE rfl rfl rfl ?_
  refine AI ?_
  refine AB ?_
  refine AE rfl rfl rfl ?_
  refine AE rfl rfl rfl ?_
  refine AE rfl rfl rfl ?_
  refine AI ?_
  refine AD ?_
  refine AF ?_
  exact AJ (res1 rfl rfl) rsubZ selZ ⟨rfl, rfl⟩
set_option maxHeartbeats 16000000 in
theorem ivCheck_spec (ρ : PH) (v : Value) (l : List (Int × Int)) (hv : SpAt ρ v l) (hl : l.length ≤ 9223372036854775807) :
  Ans Tryz.prog (fv 27) [v] [ρ] (fun r => r = int (chkI l)) := by
 obtain ⟨q, c, rfl, hr⟩ := hv.val encS_len
 refine spec_in (cap := []) Tryz.func27 rfl rfl Tryz.ntmps27 rfl envZ (fun N β => ?_)
 unfold chkI
 by_cases hbig : 1000 < l.length
 ·rw [if_pos hbig]
  refine AC ?_
  refine AA ?_
  refine AD ?_
  refine AF ?_
  refine AC ?_
  refine AC ?_
  refine AA ?_
  refine AB ?_
  refine A0 ?_
  refine CM ?_
  refine AF ?_
  refine AO rfl ?_
  refine AC ?_
  refine AA ?_
  refine AD ?_
  refine AF ?_
  exact AJ (res1 rfl rfl) rsubZ selZ ⟨rfl, rfl⟩
 rw [if_neg hbig]
 refine AC ?_
 refine AA ?_
 refine AD ?_
 refine AF ?_
 refine AC ?_
 refine AC ?_
 refine AA ?_
 refine AB ?_
 refine A0 ?_
 refine BL ?_
 refine AF ?_
 refine AN rfl ?_
 refine AL ?_
 refine AC ?_
 refine AC ?_
 refine AA ?_
 refine AB ?_
 refine A0 ?_
 refine AB ?_
 refine AF ?_
 refine AQ ?_
 refine BN [0, 8, 9] (0 : Nat) (fun k => k ≤ l.length ∧ firstE (spE l) k = 0) (fun k => [(10, int k)]) (fun _ => []) (fun k => l.length - k) pickZ ⟨by omega, rfl⟩ covZ selZ ?_
 rintro k ⟨hk, hI⟩
 by_cases hlt : k < l.length
 ·have hx := List.getElem?_eq_getElem hlt
  obtain ⟨b4, o4, rfl, hrd, g0, g1⟩ := spRow hr hx
  have hE := spE_at hx
  generalize l[k] = x at hrd g0 g1 hE
  refine AC ?_
  refine AA ?_
  refine BF ?_
  refine AF ?_
  refine AC ?_
  refine AO rfl ?_
  refine AL ?_
  refine AC ?_
  refine AQ ?_
  refine AC ?_
  refine AA ?_
  refine AB ?_
  refine BC ?_
  refine AM ?_
  refine AW ?_; rintro _ _ ⟨b, rfl, rfl⟩
  refine AD ?_
  refine AU ?_; rintro _ _ ⟨rfl, rfl⟩
  refine AF ?_
  refine AC ?_
  refine AC ?_
  refine AA ?_
  refine AM ?_
  revert b; intro b6
  refine AT (ivValid_spec x) rfl rfl rdZ rfl rfl ?_
  rintro _ rfl
  by_cases hok : okSp x
  rotate_left
  ·rw [if_pos hok] at hE
   have hh := firstE_hit hI (by rw [hE]; decide) _ hlt
   rw [hh, hE, decide_eq_false hok]
   refine BG ?_
   refine AF ?_
   refine AO rfl ?_
   refine AC ?_
   refine AA ?_
   refine AD ?_
   refine AF ?_
   exact AJ (res1 rfl rfl) rsubZ selZ ⟨rfl, rfl⟩
  rw [if_neg (fun h => h hok)] at hE
  rw [decide_eq_true hok]
  refine BG ?_
  refine AF ?_
  refine AN rfl ?_
  refine AL ?_
  refine AC ?_
  refine BM (.q 0 (.q 1 (.q 2 (.q 3 (.q 4 (.q 5 (.q 6 (.q 7 (.q 8 (.q 9 (.q 10 (.q 11 (.q 12 .nil))))))))))))) [sng b6 _] rfl (by kernel_rfl) selZ ?_
  by_cases h0 : k = 0
  ·subst h0
   rw [if_neg (by omega)] at hE
   refine AX ?_
   refine EF ?_
   refine AX ?_
   refine AS rfl rfl rfl rfl rfl ?_
   refine AS rfl rfl rfl rfl rfl ?_
   refine AS rfl rfl rfl rfl rfl ?_
   refine AS rfl rfl rfl rfl rfl ?_
   refine AS rfl rfl rfl rfl rfl ?_
   refine AS rfl rfl rfl rfl rfl ?_
   refine AS rfl rfl rfl rfl rfl ?_
   refine AS rfl rfl rfl rfl rfl ?_
   refine AS rfl rfl rfl rfl rfl ?_
   refine B6 ?_
   refine BJ ?_
   refine AN rfl ?_
   refine AL ?_
   refine A7 ?_
   refine AA ?_
   refine BA ?_
   refine AB ?_
   refine AF ?_
   exact A4 (0 + 1) ⟨by omega, firstE_ok hI hE⟩ (by omega) covZ selZ
  ·have hx' := List.getElem?_eq_getElem (show k - 1 < l.length by omega)
   obtain ⟨_, _, e, _, p0, p1⟩ := spRow hr hx'
   simp only [Option.some.injEq, Addr.mk.injEq, and_true] at e
   obtain ⟨rfl, rfl⟩ := e
   rw [List.getD_eq_getElem?_getD, hx', Option.getD_some] at hE
   generalize l[k - 1] = p at p0 p1 hE
   by_cases h9 : x.1 ≤ p.2
   ·rw [if_pos ⟨by omega, h9⟩] at hE
    have hh := firstE_hit hI (by rw [hE]; decide) _ hlt
    rw [hh, hE]
    refine AX ?_
    refine EH ?_
    refine AX ?_
    refine AY ?_
    refine AR ?_
    refine AX ?_
    refine AX ?_
    refine CS ?_
    refine C9 ?_
    refine DL ?_
    refine AR ?_
    refine G5 ?_
    refine B0 ?_
    refine BJ ?_
    refine AO rfl ?_
    refine AC ?_
    refine AA ?_
    refine AD ?_
    refine AF ?_
    exact AJ (res1 rfl rfl) rsubZ selZ ⟨rfl, rfl⟩
   ·rw [if_neg (fun h => h9 h.2)] at hE
    refine AX ?_
    refine EH ?_
    refine AX ?_
    refine AY ?_
    refine AR ?_
    refine AX ?_
    refine AX ?_
    refine CS ?_
    refine C9 ?_
    refine DL ?_
    refine AR ?_
    refine F9 ?_
    refine B0 ?_
    refine BJ ?_
    refine AN rfl ?_
    refine AL ?_
    refine A7 ?_
    refine AA ?_
    refine BA ?_
    refine AB ?_
    refine AF ?_
    exact A4 (k + 1) ⟨by omega, firstE_ok hI hE⟩ (by omega) covZ selZ
 have hke : k = l.length := by omega
 subst hke
 rw [hI]
 refine AC ?_
 refine AA ?_
 refine AZ ?_
 refine AF ?_
 refine AC ?_
 refine AN rfl ?_
 refine A8 rfl ?_
 refine AC ?_
 refine AA ?_
 refine AD ?_
 refine AF ?_
 exact AJ (res1 rfl rfl) rsubZ selZ ⟨rfl, rfl⟩
theorem ivHas1_spec (bt : Nat) (t : Int) (x : Int × Int) : Ans Tryz.prog (.func (.func 53) #[] #[.pointer (some ⟨bt, 0, none⟩)]) [.agg (encS x).toArray] [sng bt (.cells #[int t] 3 (0, 0))] (fun r => r = .bool (inSp t x)) := by
 refine spec_in (cap := [.pointer (some ⟨bt, 0, none⟩)]) Tryz.func53 rfl rfl Tryz.ntmps53 rfl envZ (fun N β => ?_)
 unfold inSp
 have c1 : rdc (sng bt (.cells #[int t] 3 (0, 0))) bt 0 = some (int t) := by rw [rdc_sng]; rfl
 by_cases h1 : x.1 ≤ t
 ·by_cases h2 : t < x.2
  ·rw [decide_eq_true h1, decide_eq_true h2]
   repeat' (first
    | (first | (first | (refine AB ?_) | (refine AD ?_) | (refine AP ?_) | (refine AG ?_) | (refine AH ?_) | (refine CW ?_) | (refine DB ?_) | (refine BU ?_) | (refine BS ?_) | (refine BC ?_) | (refine CT ?_) | (refine AK ?_)) | (first | (refine AI ?_) | (refine A0 ?_) | (refine BG ?_) | (refine BK ?_) | (refine BP ?_) | (refine BQ ?_) | (refine BA ?_) | (refine BF ?_) | (refine AZ ?_) | (refine B7 ?_) | (refine BH ?_) | (refine CC ?_)) | (first | (refine A6 ?_) | (refine CM ?_) | (refine BL ?_) | (refine CU ?_) | (refine CD ?_) | (refine CF ?_) | (refine BI ?_) | (refine BY ?_) | (refine B8 ?_) | (refine CG ?_) | (refine DC ?_) | (refine C6 ?_)) | (first | (refine CO ?_) | (refine C0 ?_) | (refine DD ?_) | (refine DE ?_) | (refine AM ?_) | (refine C4 ?_) | (refine CN ?_) | (refine A9 ?_) | (refine BR ?_) | (refine CH ?_) | (refine DF ?_) | (refine CA ?_)) | (first | (refine CI ?_) | (refine BZ ?_) | (refine CJ ?_) | (refine BO ?_) | (refine DA ?_)))
    | refine AC ?_
    | refine AA ?_
    | refine AF ?_
    | refine AQ ?_
    | refine A7 ?_
    | refine AL ?_
    | refine AO rfl ?_
    | refine AN rfl ?_
    | refine A8 rfl ?_
    | refine AE rfl rfl rfl ?_
    | (first | (refine CE ?_; rintro _ _ ⟨b, rfl, rfl⟩) | (refine CB ?_; rintro _ _ ⟨b, rfl, rfl⟩) | (refine CK ?_; rintro _ _ ⟨b, rfl, rfl⟩) | (refine AW ?_; rintro _ _ ⟨b, rfl, rfl⟩) | (refine BE ?_; rintro _ _ ⟨b, rfl, rfl⟩) | (refine A5 ?_; rintro _ _ ⟨b, rfl, rfl⟩) | (refine BX ?_; rintro _ _ ⟨b, rfl, rfl⟩) | (refine CP ?_; rintro _ _ ⟨b, rfl, rfl⟩))
    | (first | (refine BW ?_; rintro _ _ ⟨rfl, rfl⟩) | (refine B9 ?_; rintro _ _ ⟨rfl, rfl⟩) | (refine AU ?_; rintro _ _ ⟨rfl, rfl⟩) | (refine BB ?_; rintro _ _ ⟨rfl, rfl⟩) | (refine CL ?_; rintro _ _ ⟨rfl, rfl⟩))
    | fail)
   exact AJ (res1 rfl rfl) rsubZ selZ ⟨rfl, rfl⟩
  ·rw [decide_eq_true h1, decide_eq_false h2]
   repeat' (first
    | (first | (first | (refine AB ?_) | (refine AD ?_) | (refine AP ?_) | (refine AG ?_) | (refine AH ?_) | (refine CW ?_) | (refine DB ?_) | (refine BU ?_) | (refine BS ?_) | (refine BC ?_) | (refine CT ?_) | (refine AK ?_)) | (first | (refine AI ?_) | (refine A0 ?_) | (refine BG ?_) | (refine BK ?_) | (refine BP ?_) | (refine BQ ?_) | (refine BA ?_) | (refine BF ?_) | (refine AZ ?_) | (refine B7 ?_) | (refine BH ?_) | (refine CC ?_)) | (first | (refine A6 ?_) | (refine CM ?_) | (refine BL ?_) | (refine CU ?_) | (refine CD ?_) | (refine CF ?_) | (refine BI ?_) | (refine BY ?_) | (refine B8 ?_) | (refine CG ?_) | (refine DC ?_) | (refine C6 ?_)) | (first | (refine CO ?_) | (refine C0 ?_) | (refine DD ?_) | (refine DE ?_) | (refine AM ?_) | (refine C4 ?_) | (refine CN ?_) | (refine A9 ?_) | (refine BR ?_) | (refine CH ?_) | (refine DF ?_) | (refine CA ?_)) | (first | (refine CI ?_) | (refine BZ ?_) | (refine CJ ?_) | (refine BO ?_) | (refine DA ?_)))
    | refine AC ?_
    | refine AA ?_
    | refine AF ?_
    | refine AQ ?_
    | refine A7 ?_
    | refine AL ?_
    | refine AO rfl ?_
    | refine AN rfl ?_
    | refine A8 rfl ?_
    | refine AE rfl rfl rfl ?_
    | (first | (refine CE ?_; rintro _ _ ⟨b, rfl, rfl⟩) | (refine CB ?_; rintro _ _ ⟨b, rfl, rfl⟩) | (refine CK ?_; rintro _ _ ⟨b, rfl, rfl⟩) | (refine AW ?_; rintro _ _ ⟨b, rfl, rfl⟩) | (refine BE ?_; rintro _ _ ⟨b, rfl, rfl⟩) | (refine A5 ?_; rintro _ _ ⟨b, rfl, rfl⟩) | (refine BX ?_; rintro _ _ ⟨b, rfl, rfl⟩) | (refine CP ?_; rintro _ _ ⟨b, rfl, rfl⟩))
    | (first | (refine BW ?_; rintro _ _ ⟨rfl, rfl⟩) | (refine B9 ?_; rintro _ _ ⟨rfl, rfl⟩) | (refine AU ?_; rintro _ _ ⟨rfl, rfl⟩) | (refine BB ?_; rintro _ _ ⟨rfl, rfl⟩) | (refine CL ?_; rintro _ _ ⟨rfl, rfl⟩))
    | fail)
   exact AJ (res1 rfl rfl) rsubZ selZ ⟨rfl, rfl⟩
 ·rw [decide_eq_false h1, Bool.false_and]
  repeat' (first
   | (first | (first | (refine AB ?_) | (refine AD ?_) | (refine AP ?_) | (refine AG ?_) | (refine AH ?_) | (refine CW ?_) | (refine DB ?_) | (refine BU ?_) | (refine BS ?_) | (refine BC ?_) | (refine CT ?_) | (refine AK ?_)) | (first | (refine AI ?_) | (refine A0 ?_) | (refine BG ?_) | (refine BK ?_) | (refine BP ?_) | (refine BQ ?_) | (refine BA ?_) | (refine BF ?_) | (refine AZ ?_) | (refine B7 ?_) | (refine BH ?_) | (refine CC ?_)) | (first | (refine A6 ?_) | (refine CM ?_) | (refine BL ?_) | (refine CU ?_) | (refine CD ?_) | (refine CF ?_) | (refine BI ?_) | (refine BY ?_) | (refine B8 ?_) | (refine CG ?_) | (refine DC ?_) | (refine C6 ?_)) | (first | (refine CO ?_) | (refine C0 ?_) | (refine DD ?_) | (refine DE ?_) | (refine AM ?_) | (refine C4 ?_) | (refine CN ?_) | (refine A9 ?_) | (refine BR ?_) | (refine CH ?_) | (refine DF ?_) | (refine CA ?_)) | (first | (refine CI ?_) | (refine BZ ?_) | (refine CJ ?_) | (refine BO ?_) | (refine DA ?_)))
   | refine AC ?_
   | refine AA ?_
   | refine AF ?_
   | refine AQ ?_
   | refine A7 ?_
   | refine AL ?_
   | refine AO rfl ?_
   | refine AN rfl ?_
   | refine A8 rfl ?_
   | refine AE rfl rfl rfl ?_
   | (first | (refine CE ?_; rintro _ _ ⟨b, rfl, rfl⟩) | (refine CB ?_; rintro _ _ ⟨b, rfl, rfl⟩) | (refine CK ?_; rintro _ _ ⟨b, rfl, rfl⟩) | (refine AW ?_; rintro _ _ ⟨b, rfl, rfl⟩) | (refine BE ?_; rintro _ _ ⟨b, rfl, rfl⟩) | (refine A5 ?_; rintro _ _ ⟨b, rfl, rfl⟩) | (refine BX ?_; rintro _ _ ⟨b, rfl, rfl⟩) | (refine CP ?_; rintro _ _ ⟨b, rfl, rfl⟩))
   | (first | (refine BW ?_; rintro _ _ ⟨rfl, rfl⟩) | (refine B9 ?_; rintro _ _ ⟨rfl, rfl⟩) | (refine AU ?_; rintro _ _ ⟨rfl, rfl⟩) | (refine BB ?_; rintro _ _ ⟨rfl, rfl⟩) | (refine CL ?_; rintro _ _ ⟨rfl, rfl⟩))
   | fail)
  exact AJ (res1 rfl rfl) rsubZ selZ ⟨rfl, rfl⟩
theorem ivHas_spec (ρ : PH) (v : Value) (l : List (Int × Int)) (t : Int) (hv : SpAt ρ v l) (hl : l.length ≤ 9223372036854775807) :
  Ans Tryz.prog (fv 28) [v, int t] [ρ] (fun r => r = .bool (hasI l t)) := by
 have hv2 := hv
 obtain ⟨q, c, rfl, hr⟩ := hv.val encS_len
 refine spec_in (cap := []) Tryz.func28 rfl rfl Tryz.ntmps28 rfl envZ (fun N β => ?_)
 repeat' (first
  | (first | (first | (refine AB ?_) | (refine AD ?_) | (refine AP ?_) | (refine AG ?_) | (refine AH ?_) | (refine CW ?_) | (refine DB ?_) | (refine BU ?_) | (refine BS ?_) | (refine BC ?_) | (refine CT ?_) | (refine AK ?_)) | (first | (refine AI ?_) | (refine A0 ?_) | (refine BG ?_) | (refine BK ?_) | (refine BP ?_) | (refine BQ ?_) | (refine BA ?_) | (refine BF ?_) | (refine AZ ?_) | (refine B7 ?_) | (refine BH ?_) | (refine CC ?_)) | (first | (refine A6 ?_) | (refine CM ?_) | (refine BL ?_) | (refine CU ?_) | (refine CD ?_) | (refine CF ?_) | (refine BI ?_) | (refine BY ?_) | (refine B8 ?_) | (refine CG ?_) | (refine DC ?_) | (refine C6 ?_)) | (first | (refine CO ?_) | (refine C0 ?_) | (refine DD ?_) | (refine DE ?_) | (refine AM ?_) | (refine C4 ?_) | (refine CN ?_) | (refine A9 ?_) | (refine BR ?_) | (refine CH ?_) | (refine DF ?_) | (refine CA ?_)) | (first | (refine CI ?_) | (refine BZ ?_) | (refine CJ ?_) | (refine BO ?_) | (refine DA ?_)))
  | refine AC ?_
  | refine AA ?_
  | refine AF ?_
  | refine AQ ?_
  | refine A7 ?_
  | refine AL ?_
  | refine AO rfl ?_
  | refine AN rfl ?_
  | refine A8 rfl ?_
  | refine AE rfl rfl rfl ?_
  | (first | (refine CE ?_; rintro _ _ ⟨b, rfl, rfl⟩) | (refine CB ?_; rintro _ _ ⟨b, rfl, rfl⟩) | (refine CK ?_; rintro _ _ ⟨b, rfl, rfl⟩) | (refine AW ?_; rintro _ _ ⟨b, rfl, rfl⟩) | (refine BE ?_; rintro _ _ ⟨b, rfl, rfl⟩) | (refine A5 ?_; rintro _ _ ⟨b, rfl, rfl⟩) | (refine BX ?_; rintro _ _ ⟨b, rfl, rfl⟩) | (refine CP ?_; rintro _ _ ⟨b, rfl, rfl⟩))
  | (first | (refine BW ?_; rintro _ _ ⟨rfl, rfl⟩) | (refine B9 ?_; rintro _ _ ⟨rfl, rfl⟩) | (refine AU ?_; rintro _ _ ⟨rfl, rfl⟩) | (refine BB ?_; rintro _ _ ⟨rfl, rfl⟩) | (refine CL ?_; rintro _ _ ⟨rfl, rfl⟩))
  | fail)
 refine AT (ivCheck_spec ρ _ l hv2 hl) rfl rfl rdZ rfl rfl ?_
 rintro _ rfl
 unfold hasI
 by_cases h0 : chkI l = 0
 rotate_left
 ·rw [decide_eq_false h0, Bool.false_and]
  generalize chkI l = z at h0
  repeat' (first
   | (first | (first | (refine AB ?_) | (refine AD ?_) | (refine AP ?_) | (refine AG ?_) | (refine AH ?_) | (refine CW ?_) | (refine DB ?_) | (refine BU ?_) | (refine BS ?_) | (refine BC ?_) | (refine CT ?_) | (refine AK ?_)) | (first | (refine AI ?_) | (refine A0 ?_) | (refine BG ?_) | (refine BK ?_) | (refine BP ?_) | (refine BQ ?_) | (refine BA ?_) | (refine BF ?_) | (refine AZ ?_) | (refine B7 ?_) | (refine BH ?_) | (refine CC ?_)) | (first | (refine A6 ?_) | (refine CM ?_) | (refine BL ?_) | (refine CU ?_) | (refine CD ?_) | (refine CF ?_) | (refine BI ?_) | (refine BY ?_) | (refine B8 ?_) | (refine CG ?_) | (refine DC ?_) | (refine C6 ?_)) | (first | (refine CO ?_) | (refine C0 ?_) | (refine DD ?_) | (refine DE ?_) | (refine AM ?_) | (refine C4 ?_) | (refine CN ?_) | (refine A9 ?_) | (refine BR ?_) | (refine CH ?_) | (refine DF ?_) | (refine CA ?_)) | (first | (refine CI ?_) | (refine BZ ?_) | (refine CJ ?_) | (refine BO ?_) | (refine DA ?_)))
   | refine AC ?_
   | refine AA ?_
   | refine AF ?_
   | refine AQ ?_
   | refine A7 ?_
   | refine AL ?_
   | refine AO rfl ?_
   | refine AN rfl ?_
   | refine A8 rfl ?_
   | refine AE rfl rfl rfl ?_
   | (first | (refine CE ?_; rintro _ _ ⟨b, rfl, rfl⟩) | (refine CB ?_; rintro _ _ ⟨b, rfl, rfl⟩) | (refine CK ?_; rintro _ _ ⟨b, rfl, rfl⟩) | (refine AW ?_; rintro _ _ ⟨b, rfl, rfl⟩) | (refine BE ?_; rintro _ _ ⟨b, rfl, rfl⟩) | (refine A5 ?_; rintro _ _ ⟨b, rfl, rfl⟩) | (refine BX ?_; rintro _ _ ⟨b, rfl, rfl⟩) | (refine CP ?_; rintro _ _ ⟨b, rfl, rfl⟩))
   | (first | (refine BW ?_; rintro _ _ ⟨rfl, rfl⟩) | (refine B9 ?_; rintro _ _ ⟨rfl, rfl⟩) | (refine AU ?_; rintro _ _ ⟨rfl, rfl⟩) | (refine BB ?_; rintro _ _ ⟨rfl, rfl⟩) | (refine CL ?_; rintro _ _ ⟨rfl, rfl⟩))
   | fail)
  exact AJ (res1 rfl rfl) rsubZ selZ ⟨rfl, rfl⟩
 rw [decide_eq_true h0, Bool.true_and, h0]
 repeat' (first
  | (first | (first | (refine AB ?_) | (refine AD ?_) | (refine AP ?_) | (refine AG ?_) | (refine AH ?_) | (refine CW ?_) | (refine DB ?_) | (refine BU ?_) | (refine BS ?_) | (refine BC ?_) | (refine CT ?_) | (refine AK ?_)) | (first | (refine AI ?_) | (refine A0 ?_) | (refine BG ?_) | (refine BK ?_) | (refine BP ?_) | (refine BQ ?_) | (refine BA ?_) | (refine BF ?_) | (refine AZ ?_) | (refine B7 ?_) | (refine BH ?_) | (refine CC ?_)) | (first | (refine A6 ?_) | (refine CM ?_) | (refine BL ?_) | (refine CU ?_) | (refine CD ?_) | (refine CF ?_) | (refine BI ?_) | (refine BY ?_) | (refine B8 ?_) | (refine CG ?_) | (refine DC ?_) | (refine C6 ?_)) | (first | (refine CO ?_) | (refine C0 ?_) | (refine DD ?_) | (refine DE ?_) | (refine AM ?_) | (refine C4 ?_) | (refine CN ?_) | (refine A9 ?_) | (refine BR ?_) | (refine CH ?_) | (refine DF ?_) | (refine CA ?_)) | (first | (refine CI ?_) | (refine BZ ?_) | (refine CJ ?_) | (refine BO ?_) | (refine DA ?_)))
  | refine AC ?_
  | refine AA ?_
  | refine AF ?_
  | refine AQ ?_
  | refine A7 ?_
  | refine AL ?_
  | refine AO rfl ?_
  | refine AN rfl ?_
  | refine A8 rfl ?_
  | refine AE rfl rfl rfl ?_
  | (first | (refine CE ?_; rintro _ _ ⟨b, rfl, rfl⟩) | (refine CB ?_; rintro _ _ ⟨b, rfl, rfl⟩) | (refine CK ?_; rintro _ _ ⟨b, rfl, rfl⟩) | (refine AW ?_; rintro _ _ ⟨b, rfl, rfl⟩) | (refine BE ?_; rintro _ _ ⟨b, rfl, rfl⟩) | (refine A5 ?_; rintro _ _ ⟨b, rfl, rfl⟩) | (refine BX ?_; rintro _ _ ⟨b, rfl, rfl⟩) | (refine CP ?_; rintro _ _ ⟨b, rfl, rfl⟩))
  | (first | (refine BW ?_; rintro _ _ ⟨rfl, rfl⟩) | (refine B9 ?_; rintro _ _ ⟨rfl, rfl⟩) | (refine AU ?_; rintro _ _ ⟨rfl, rfl⟩) | (refine BB ?_; rintro _ _ ⟨rfl, rfl⟩) | (refine CL ?_; rintro _ _ ⟨rfl, rfl⟩))
  | fail)
 refine AT (contS_spec ρ [sng b (.cells #[int t] 3 (0, 0))] _ _ l (inSp t) hv2 hl (fun i x _ => ivHas1_spec b t x)) rfl rfl rdZ rfl rfl ?_
 rintro _ rfl
 repeat' (first
  | (first | (first | (refine AB ?_) | (refine AD ?_) | (refine AP ?_) | (refine AG ?_) | (refine AH ?_) | (refine CW ?_) | (refine DB ?_) | (refine BU ?_) | (refine BS ?_) | (refine BC ?_) | (refine CT ?_) | (refine AK ?_)) | (first | (refine AI ?_) | (refine A0 ?_) | (refine BG ?_) | (refine BK ?_) | (refine BP ?_) | (refine BQ ?_) | (refine BA ?_) | (refine BF ?_) | (refine AZ ?_) | (refine B7 ?_) | (refine BH ?_) | (refine CC ?_)) | (first | (refine A6 ?_) | (refine CM ?_) | (refine BL ?_) | (refine CU ?_) | (refine CD ?_) | (refine CF ?_) | (refine BI ?_) | (refine BY ?_) | (refine B8 ?_) | (refine CG ?_) | (refine DC ?_) | (refine C6 ?_)) | (first | (refine CO ?_) | (refine C0 ?_) | (refine DD ?_) | (refine DE ?_) | (refine AM ?_) | (refine C4 ?_) | (refine CN ?_) | (refine A9 ?_) | (refine BR ?_) | (refine CH ?_) | (refine DF ?_) | (refine CA ?_)) | (first | (refine CI ?_) | (refine BZ ?_) | (refine CJ ?_) | (refine BO ?_) | (refine DA ?_)))
  | refine AC ?_
  | refine AA ?_
  | refine AF ?_
  | refine AQ ?_
  | refine A7 ?_
  | refine AL ?_
  | refine AO rfl ?_
  | refine AN rfl ?_
  | refine A8 rfl ?_
  | refine AE rfl rfl rfl ?_
  | (first | (refine CE ?_; rintro _ _ ⟨b, rfl, rfl⟩) | (refine CB ?_; rintro _ _ ⟨b, rfl, rfl⟩) | (refine CK ?_; rintro _ _ ⟨b, rfl, rfl⟩) | (refine AW ?_; rintro _ _ ⟨b, rfl, rfl⟩) | (refine BE ?_; rintro _ _ ⟨b, rfl, rfl⟩) | (refine A5 ?_; rintro _ _ ⟨b, rfl, rfl⟩) | (refine BX ?_; rintro _ _ ⟨b, rfl, rfl⟩) | (refine CP ?_; rintro _ _ ⟨b, rfl, rfl⟩))
  | (first | (refine BW ?_; rintro _ _ ⟨rfl, rfl⟩) | (refine B9 ?_; rintro _ _ ⟨rfl, rfl⟩) | (refine AU ?_; rintro _ _ ⟨rfl, rfl⟩) | (refine BB ?_; rintro _ _ ⟨rfl, rfl⟩) | (refine CL ?_; rintro _ _ ⟨rfl, rfl⟩))
  | fail)
 exact AJ (res1 rfl rfl) rsubZ selZ ⟨rfl, rfl⟩
end Go.Proofs.YtknfhiolenobaaaGreat
/- Demands: checked. -/
namespace Go.Proofs.YtknfhiolenobaaaGreat
open Go.Eng Go.Step
set_option maxRecDepth 100000
set_option maxHeartbeats 4000000

theorem chkPl_ct {qs : List Int} {cs : List Ct} (h : chkPl qs cs = 0) : cs.length ≤ 64 ∧ ∀ c ∈ cs, chkCt c = 0 ∧ c.f < qs.length ∧ c.t < qs.length := by
 unfold chkPl at h
 by_cases h1 : qs.length < 1 ∨ 16 < qs.length ∨ 64 < cs.length
 ·rw [if_pos h1] at h; omega
 rw [if_neg h1] at h
 by_cases h2 : firstE (quoE qs) qs.length = 0
 ·rw [if_neg (by simpa using h2)] at h
  refine ⟨by omega, fun c hc => ?_⟩
  obtain ⟨i, hi, rfl⟩ := List.getElem_of_mem hc
  have h3 := firstE_zero h i hi
  rw [ctE_at (List.getElem?_eq_getElem hi)] at h3
  by_cases h4 : chkCt cs[i] = 0
  ·rw [if_neg (by simpa using h4)] at h3
   by_cases h5 : (qs.length : Int) ≤ cs[i].f ∨ (qs.length : Int) ≤ cs[i].t
   ·rw [if_pos h5] at h3; omega
   ·exact ⟨h4, by omega, by omega⟩
  ·rw [if_pos h4] at h3; exact absurd h3 h4
 ·rw [if_pos h2] at h; exact absurd h h2
theorem chkCt_all {c : Ct} (h : chkCt c = 0) : (0 ≤ c.f ∧ c.f ≤ 15) ∧ (0 ≤ c.t ∧ c.t ≤ 15) ∧ (0 ≤ c.s ∧ c.s < c.e ∧ c.e ≤ 1099511627776) ∧ (1 ≤ c.r ∧ c.r ≤ 1000) ∧ (1 ≤ c.g ∧ c.g ≤ 1048576) := by
 have h2 := chkCt_se h
 unfold chkCt at h
 by_cases h1 : okCt c
 ·unfold okCt at h1
  exact ⟨h1.1, h1.2.1, h2, h1.2.2.1, h1.2.2.2.1⟩
 ·rw [if_pos h1] at h; omega
theorem isNode_spec (bt : Nat) (k n : Int) : Ans Tryz.prog (.func (.func 48) #[] #[.pointer (some ⟨bt, 0, none⟩)]) [int k] [sng bt (.cells #[int n] 3 (0, 0))] (fun r => r = .bool (decide (0 ≤ k ∧ k < n))) := by
 refine spec_in (cap := [.pointer (some ⟨bt, 0, none⟩)]) Tryz.func48 rfl rfl Tryz.ntmps48 rfl envZ (fun N β => ?_)
 have c1 : rdc (sng bt (.cells #[int n] 3 (0, 0))) bt 0 = some (int n) := by rw [rdc_sng]; rfl
 by_cases h1 : 0 ≤ k
 ·by_cases h2 : k < n
  ·rw [decide_eq_true ⟨h1, h2⟩]
   refine AC ?_
   refine AA ?_
   refine AD ?_
   refine AF ?_
   refine AC ?_
   refine AA ?_
   refine AB ?_
   refine CF ?_
   refine AB ?_
   refine AB ?_
   refine AG ?_
   refine BF ?_
   refine AK ?_
   refine AD ?_
   refine AF ?_
   exact AJ (res1 rfl rfl) rsubZ selZ ⟨rfl, rfl⟩
  ·rw [decide_eq_false (fun h => h2 h.2)]
   refine AC ?_
   refine AA ?_
   refine AD ?_
   refine AF ?_
   refine AC ?_
   refine AA ?_
   refine AB ?_
   refine CF ?_
   refine AB ?_
   refine AB ?_
   refine AG ?_
   refine AZ ?_
   refine AK ?_
   refine AD ?_
   refine AF ?_
   exact AJ (res1 rfl rfl) rsubZ selZ ⟨rfl, rfl⟩
 ·rw [decide_eq_false (fun h => h1 h.1)]
  refine AC ?_
  refine AA ?_
  refine AD ?_
  refine AF ?_
  refine AC ?_
  refine AA ?_
  refine AB ?_
  refine BI ?_
  refine AB ?_
  refine AE rfl rfl rfl ?_
  refine AE rfl rfl rfl ?_
  refine AE rfl rfl rfl ?_
  refine AI ?_
  refine AD ?_
  refine AF ?_
  exact AJ (res1 rfl rfl) rsubZ selZ ⟨rfl, rfl⟩
set_option maxHeartbeats 32000000 in
theorem certCheck_spec {ρ τ σ υ : PH} {pq pc pb ph : Option Addr} {kq kc kb kh : Nat} {qs : List Int} {cs : List Ct} {bs : List Bk} {hs : List Hd} (hT : TbAt ρ τ σ υ pq pc pb ph kq kc kb kh qs cs bs hs) (d : Dm) :
  Ans Tryz.prog (fv 21) [.agg #[.slice pq qs.length kq, .slice pc cs.length kc, .slice pb bs.length kb, .slice ph hs.length kh], .agg #[int d.s, int d.d, int d.v, int d.r, int d.e]] [ρ, τ, σ, υ] (fun r => r = int (if validT qs cs bs hs d then 0 else 1)) := by
 refine spec_in (cap := []) Tryz.func21 rfl rfl Tryz.ntmps21 rfl envZ (fun N β => ?_)
 refine AC ?_
 refine AA ?_
 refine BT (BV rfl) rfl rfl rfl ?_
 rintro _ _ ⟨b1, rfl, rfl⟩
 refine AV (ρ := sng b1 _) takeZ ?_
 have ct : RdN (sng b1 (.cells #[.slice pq qs.length kq, .slice pc cs.length kc, .slice pb bs.length kb, .slice ph hs.length kh] 29 (0, 0))) b1 0 [.slice pq qs.length kq, .slice pc cs.length kc, .slice pb bs.length kb, .slice ph hs.length kh] := rdN_sng (vs := [.slice pq qs.length kq, .slice pc cs.length kc, .slice pb bs.length kb, .slice ph hs.length kh])
 have ct0 : rdc (sng b1 (.cells #[.slice pq qs.length kq, .slice pc cs.length kc, .slice pb bs.length kb, .slice ph hs.length kh] 29 (0, 0))) b1 0 = some (.slice pq qs.length kq) := by rw [rdc_sng]; rfl
 have ct1 : rdc (sng b1 (.cells #[.slice pq qs.length kq, .slice pc cs.length kc, .slice pb bs.length kb, .slice ph hs.length kh] 29 (0, 0))) b1 1 = some (.slice pc cs.length kc) := by rw [rdc_sng]; rfl
 have ct2 : rdc (sng b1 (.cells #[.slice pq qs.length kq, .slice pc cs.length kc, .slice pb bs.length kb, .slice ph hs.length kh] 29 (0, 0))) b1 2 = some (.slice pb bs.length kb) := by rw [rdc_sng]; rfl
 have ct3 : rdc (sng b1 (.cells #[.slice pq qs.length kq, .slice pc cs.length kc, .slice pb bs.length kb, .slice ph hs.length kh] 29 (0, 0))) b1 3 = some (.slice ph hs.length kh) := by rw [rdc_sng]; rfl
 have ctp : RdP (sng b1 (.cells #[.slice pq qs.length kq, .slice pc cs.length kc, .slice pb bs.length kb, .slice ph hs.length kh] 29 (0, 0))) b1 0 [.slice pq qs.length kq, .slice pc cs.length kc] := rdP_sng (xs := [.slice pq qs.length kq, .slice pc cs.length kc, .slice pb bs.length kb, .slice ph hs.length kh]) rfl
 refine BT (BV rfl) rfl rfl rfl ?_
 rintro _ _ ⟨b2, rfl, rfl⟩
 refine AV (ρ := sng b2 _) takeZ ?_
 have cd : RdN (sng b2 (.cells #[int d.s, int d.d, int d.v, int d.r, int d.e] 31 (0, 0))) b2 0 [int d.s, int d.d, int d.v, int d.r, int d.e] := rdN_sng (vs := [int d.s, int d.d, int d.v, int d.r, int d.e])
 have cd0 : rdc (sng b2 (.cells #[int d.s, int d.d, int d.v, int d.r, int d.e] 31 (0, 0))) b2 0 = some (int d.s) := by rw [rdc_sng]; rfl
 have cd1 : rdc (sng b2 (.cells #[int d.s, int d.d, int d.v, int d.r, int d.e] 31 (0, 0))) b2 1 = some (int d.d) := by rw [rdc_sng]; rfl
 have cd2 : rdc (sng b2 (.cells #[int d.s, int d.d, int d.v, int d.r, int d.e] 31 (0, 0))) b2 2 = some (int d.v) := by rw [rdc_sng]; rfl
 have cd3 : rdc (sng b2 (.cells #[int d.s, int d.d, int d.v, int d.r, int d.e] 31 (0, 0))) b2 3 = some (int d.r) := by rw [rdc_sng]; rfl
 have cd4 : rdc (sng b2 (.cells #[int d.s, int d.d, int d.v, int d.r, int d.e] 31 (0, 0))) b2 4 = some (int d.e) := by rw [rdc_sng]; rfl
 refine AD ?_
 refine AF ?_
 refine AC ?_
 refine AA ?_
 refine AH ?_
 refine AH ?_
 refine AG ?_
 refine A0 ?_
 refine BE ?_; rintro _ _ ⟨b, rfl, rfl⟩
 refine BB ?_; rintro _ _ ⟨rfl, rfl⟩
 refine AF ?_
 refine AC ?_
 refine AA ?_
 refine A9 ?_
 refine AD ?_
 refine AF ?_
 refine AC ?_
 refine AC ?_
 refine AA ?_
 refine AM ?_
 revert b; intro bn
 refine AT (chkTab_spec hT) rfl rfl rdZ rfl rfl ?_
 rintro _ rfl
 by_cases h0 : chkT qs cs bs hs = 0
 rotate_left
 ·have hv : validT qs cs bs hs d = false := decide_eq_false (fun h => h0 h.1)
  rw [hv]
  generalize chkT qs cs bs hs = z at h0
  refine CC ?_
  refine AB ?_
  refine AE rfl rfl rfl ?_
  refine AE rfl rfl rfl ?_
  refine AE rfl rfl rfl ?_
  refine AE rfl rfl rfl ?_
  refine AE rfl rfl rfl ?_
  refine AK ?_
  refine AB ?_
  refine AE rfl rfl rfl ?_
  refine AE rfl rfl rfl ?_
  refine AE rfl rfl rfl ?_
  refine AE rfl rfl rfl ?_
  refine AE rfl rfl rfl ?_
  refine AK ?_
  refine AB ?_
  refine AE rfl rfl rfl ?_
  refine AE rfl rfl rfl ?_
  refine AE rfl rfl rfl ?_
  refine AE rfl rfl rfl ?_
  refine AE rfl rfl rfl ?_
  refine AK ?_
  refine AB ?_
  refine AE rfl rfl rfl ?_
  refine AE rfl rfl rfl ?_
  refine AE rfl rfl rfl ?_
  refine AK ?_
  refine AB ?_
  refine AE rfl rfl rfl ?_
  refine AE rfl rfl rfl ?_
  refine AE rfl rfl rfl ?_
  refine AK ?_
  refine AB ?_
  refine AE rfl rfl rfl ?_
  refine AE rfl rfl rfl ?_
  refine AE rfl rfl rfl ?_
  refine AK ?_
  refine AB ?_
  refine AE rfl rfl rfl ?_
  refine AE rfl rfl rfl ?_
  refine AE rfl rfl rfl ?_
  refine AE rfl rfl rfl ?_
  refine AE rfl rfl rfl ?_
  refine AK ?_
  refine AB ?_
  refine AE rfl rfl rfl ?_
  refine AE rfl rfl rfl ?_
  refine AE rfl rfl rfl ?_
  refine AK ?_
  refine AB ?_
  refine AE rfl rfl rfl ?_
  refine AE rfl rfl rfl ?_
  refine AE rfl rfl rfl ?_
  refine AE rfl rfl rfl ?_
  refine AE rfl rfl rfl ?_
  refine AE rfl rfl rfl ?_
  refine AK ?_
  refine AF ?_
  refine AO rfl ?_
  refine AC ?_
  refine AA ?_
  refine AD ?_
  refine AF ?_
  exact AJ (res1 rfl rfl) rsubZ selZ ⟨rfl, rfl⟩
 rw [h0]
 have hbad : ¬ okDm qs.length d → (if validT qs cs bs hs d = true then (0 : Int) else 1) = 1 := fun h => by
  rw [show validT qs cs bs hs d = false from decide_eq_false (fun k => h k.2)]; rfl
 by_cases hs1 : 0 ≤ d.s ∧ d.s < (qs.length : Int)
 rotate_left
 ·have hS : decide (0 ≤ d.s ∧ d.s < (qs.length : Int)) = false := decide_eq_false hs1
  have hD := hS
  rw [hbad (fun h => by unfold okDm at h; omega)]
  refine A6 ?_
  refine AB ?_
  refine AB ?_
  refine AH ?_
  refine AG ?_
  focus ((refine AT (isNode_spec bn _ _) rfl rfl rdZ rfl rfl ?_; rintro _ rfl; first | rw [hS] | rw [hD]))
  refine BG ?_
  refine AI ?_
  refine AB ?_
  refine AE rfl rfl rfl ?_
  refine AE rfl rfl rfl ?_
  refine AE rfl rfl rfl ?_
  refine AE rfl rfl rfl ?_
  refine AE rfl rfl rfl ?_
  refine AK ?_
  refine AB ?_
  refine AE rfl rfl rfl ?_
  refine AE rfl rfl rfl ?_
  refine AE rfl rfl rfl ?_
  refine AE rfl rfl rfl ?_
  refine AE rfl rfl rfl ?_
  refine AK ?_
  refine AB ?_
  refine AE rfl rfl rfl ?_
  refine AE rfl rfl rfl ?_
  refine AE rfl rfl rfl ?_
  refine AK ?_
  refine AB ?_
  refine AE rfl rfl rfl ?_
  refine AE rfl rfl rfl ?_
  refine AE rfl rfl rfl ?_
  refine AK ?_
  refine AB ?_
  refine AE rfl rfl rfl ?_
  refine AE rfl rfl rfl ?_
  refine AE rfl rfl rfl ?_
  refine AK ?_
  refine AB ?_
  refine AE rfl rfl rfl ?_
  refine AE rfl rfl rfl ?_
  refine AE rfl rfl rfl ?_
  refine AE rfl rfl rfl ?_
  refine AE rfl rfl rfl ?_
  refine AK ?_
  refine AB ?_
  refine AE rfl rfl rfl ?_
  refine AE rfl rfl rfl ?_
  refine AE rfl rfl rfl ?_
  refine AK ?_
  refine AB ?_
  refine AE rfl rfl rfl ?_
  refine AE rfl rfl rfl ?_
  refine AE rfl rfl rfl ?_
  refine AE rfl rfl rfl ?_
  refine AE rfl rfl rfl ?_
  refine AE rfl rfl rfl ?_
  refine AK ?_
  refine AF ?_
  refine AO rfl ?_
  refine AC ?_
  refine AA ?_
  refine AD ?_
  refine AF ?_
  exact AJ (res1 rfl rfl) rsubZ selZ ⟨rfl, rfl⟩
 have hS : decide (0 ≤ d.s ∧ d.s < (qs.length : Int)) = true := decide_eq_true hs1
 by_cases hd1 : 0 ≤ d.d ∧ d.d < (qs.length : Int)
 rotate_left
 ·have hD : decide (0 ≤ d.d ∧ d.d < (qs.length : Int)) = false := decide_eq_false hd1
  rw [hbad (fun h => by unfold okDm at h; omega)]
  refine A6 ?_
  refine AB ?_
  refine AB ?_
  refine AH ?_
  refine AG ?_
  focus ((refine AT (isNode_spec bn _ _) rfl rfl rdZ rfl rfl ?_; rintro _ rfl; first | rw [hS] | rw [hD]))
  refine BG ?_
  refine AI ?_
  refine AB ?_
  refine AB ?_
  refine AH ?_
  refine AG ?_
  focus ((refine AT (isNode_spec bn _ _) rfl rfl rdZ rfl rfl ?_; rintro _ rfl; first | rw [hS] | rw [hD]))
  refine BG ?_
  refine AI ?_
  refine AB ?_
  refine AE rfl rfl rfl ?_
  refine AE rfl rfl rfl ?_
  refine AE rfl rfl rfl ?_
  refine AE rfl rfl rfl ?_
  refine AE rfl rfl rfl ?_
  refine AK ?_
  refine AB ?_
  refine AE rfl rfl rfl ?_
  refine AE rfl rfl rfl ?_
  refine AE rfl rfl rfl ?_
  refine AK ?_
  refine AB ?_
  refine AE rfl rfl rfl ?_
  refine AE rfl rfl rfl ?_
  refine AE rfl rfl rfl ?_
  refine AK ?_
  refine AB ?_
  refine AE rfl rfl rfl ?_
  refine AE rfl rfl rfl ?_
  refine AE rfl rfl rfl ?_
  refine AK ?_
  refine AB ?_
  refine AE rfl rfl rfl ?_
  refine AE rfl rfl rfl ?_
  refine AE rfl rfl rfl ?_
  refine AE rfl rfl rfl ?_
  refine AE rfl rfl rfl ?_
  refine AK ?_
  refine AB ?_
  refine AE rfl rfl rfl ?_
  refine AE rfl rfl rfl ?_
  refine AE rfl rfl rfl ?_
  refine AK ?_
  refine AB ?_
  refine AE rfl rfl rfl ?_
  refine AE rfl rfl rfl ?_
  refine AE rfl rfl rfl ?_
  refine AE rfl rfl rfl ?_
  refine AE rfl rfl rfl ?_
  refine AE rfl rfl rfl ?_
  refine AK ?_
  refine AF ?_
  refine AO rfl ?_
  refine AC ?_
  refine AA ?_
  refine AD ?_
  refine AF ?_
  exact AJ (res1 rfl rfl) rsubZ selZ ⟨rfl, rfl⟩
 have hD : decide (0 ≤ d.d ∧ d.d < (qs.length : Int)) = true := decide_eq_true hd1
 by_cases h3 : d.s ≠ d.d
 rotate_left
 ·rw [hbad (fun h => by unfold okDm at h; omega)]
  refine A6 ?_
  refine AB ?_
  refine AB ?_
  refine AH ?_
  refine AG ?_
  focus ((refine AT (isNode_spec bn _ _) rfl rfl rdZ rfl rfl ?_; rintro _ rfl; first | rw [hS] | rw [hD]))
  refine BG ?_
  refine AI ?_
  refine AB ?_
  refine AB ?_
  refine AH ?_
  refine AG ?_
  focus ((refine AT (isNode_spec bn _ _) rfl rfl rdZ rfl rfl ?_; rintro _ rfl; first | rw [hS] | rw [hD]))
  refine BG ?_
  refine AI ?_
  refine AB ?_
  refine AH ?_
  refine AG ?_
  refine AH ?_
  refine AG ?_
  refine B7 ?_
  refine AI ?_
  refine AB ?_
  refine AE rfl rfl rfl ?_
  refine AE rfl rfl rfl ?_
  refine AE rfl rfl rfl ?_
  refine AK ?_
  refine AB ?_
  refine AE rfl rfl rfl ?_
  refine AE rfl rfl rfl ?_
  refine AE rfl rfl rfl ?_
  refine AK ?_
  refine AB ?_
  refine AE rfl rfl rfl ?_
  refine AE rfl rfl rfl ?_
  refine AE rfl rfl rfl ?_
  refine AK ?_
  refine AB ?_
  refine AE rfl rfl rfl ?_
  refine AE rfl rfl rfl ?_
  refine AE rfl rfl rfl ?_
  refine AE rfl rfl rfl ?_
  refine AE rfl rfl rfl ?_
  refine AK ?_
  refine AB ?_
  refine AE rfl rfl rfl ?_
  refine AE rfl rfl rfl ?_
  refine AE rfl rfl rfl ?_
  refine AK ?_
  refine AB ?_
  refine AE rfl rfl rfl ?_
  refine AE rfl rfl rfl ?_
  refine AE rfl rfl rfl ?_
  refine AE rfl rfl rfl ?_
  refine AE rfl rfl rfl ?_
  refine AE rfl rfl rfl ?_
  refine AK ?_
  refine AF ?_
  refine AO rfl ?_
  refine AC ?_
  refine AA ?_
  refine AD ?_
  refine AF ?_
  exact AJ (res1 rfl rfl) rsubZ selZ ⟨rfl, rfl⟩
 by_cases h4 : 1 ≤ d.v
 rotate_left
 ·rw [hbad (fun h => by unfold okDm at h; omega)]
  refine A6 ?_
  refine AB ?_
  refine AB ?_
  refine AH ?_
  refine AG ?_
  focus ((refine AT (isNode_spec bn _ _) rfl rfl rdZ rfl rfl ?_; rintro _ rfl; first | rw [hS] | rw [hD]))
  refine BG ?_
  refine AI ?_
  refine AB ?_
  refine AB ?_
  refine AH ?_
  refine AG ?_
  focus ((refine AT (isNode_spec bn _ _) rfl rfl rdZ rfl rfl ?_; rintro _ rfl; first | rw [hS] | rw [hD]))
  refine BG ?_
  refine AI ?_
  refine AB ?_
  refine AH ?_
  refine AG ?_
  refine AH ?_
  refine AG ?_
  refine BH ?_
  refine AI ?_
  refine AB ?_
  refine AH ?_
  refine AG ?_
  refine BF ?_
  refine AI ?_
  refine AB ?_
  refine AE rfl rfl rfl ?_
  refine AE rfl rfl rfl ?_
  refine AE rfl rfl rfl ?_
  refine AK ?_
  refine AB ?_
  refine AE rfl rfl rfl ?_
  refine AE rfl rfl rfl ?_
  refine AE rfl rfl rfl ?_
  refine AK ?_
  refine AB ?_
  refine AE rfl rfl rfl ?_
  refine AE rfl rfl rfl ?_
  refine AE rfl rfl rfl ?_
  refine AE rfl rfl rfl ?_
  refine AE rfl rfl rfl ?_
  refine AK ?_
  refine AB ?_
  refine AE rfl rfl rfl ?_
  refine AE rfl rfl rfl ?_
  refine AE rfl rfl rfl ?_
  refine AK ?_
  refine AB ?_
  refine AE rfl rfl rfl ?_
  refine AE rfl rfl rfl ?_
  refine AE rfl rfl rfl ?_
  refine AE rfl rfl rfl ?_
  refine AE rfl rfl rfl ?_
  refine AE rfl rfl rfl ?_
  refine AK ?_
  refine AF ?_
  refine AO rfl ?_
  refine AC ?_
  refine AA ?_
  refine AD ?_
  refine AF ?_
  exact AJ (res1 rfl rfl) rsubZ selZ ⟨rfl, rfl⟩
 by_cases h5 : d.v ≤ 1099511627776
 rotate_left
 ·rw [hbad (fun h => by unfold okDm at h; omega)]
  refine A6 ?_
  refine AB ?_
  refine AB ?_
  refine AH ?_
  refine AG ?_
  focus ((refine AT (isNode_spec bn _ _) rfl rfl rdZ rfl rfl ?_; rintro _ rfl; first | rw [hS] | rw [hD]))
  refine BG ?_
  refine AI ?_
  refine AB ?_
  refine AB ?_
  refine AH ?_
  refine AG ?_
  focus ((refine AT (isNode_spec bn _ _) rfl rfl rdZ rfl rfl ?_; rintro _ rfl; first | rw [hS] | rw [hD]))
  refine BG ?_
  refine AI ?_
  refine AB ?_
  refine AH ?_
  refine AG ?_
  refine AH ?_
  refine AG ?_
  refine BH ?_
  refine AI ?_
  refine AB ?_
  refine AH ?_
  refine AG ?_
  refine AZ ?_
  refine AI ?_
  refine AB ?_
  refine AH ?_
  refine AG ?_
  refine CM ?_
  refine AI ?_
  refine AB ?_
  refine AE rfl rfl rfl ?_
  refine AE rfl rfl rfl ?_
  refine AE rfl rfl rfl ?_
  refine AK ?_
  refine AB ?_
  refine AE rfl rfl rfl ?_
  refine AE rfl rfl rfl ?_
  refine AE rfl rfl rfl ?_
  refine AE rfl rfl rfl ?_
  refine AE rfl rfl rfl ?_
  refine AK ?_
  refine AB ?_
  refine AE rfl rfl rfl ?_
  refine AE rfl rfl rfl ?_
  refine AE rfl rfl rfl ?_
  refine AK ?_
  refine AB ?_
  refine AE rfl rfl rfl ?_
  refine AE rfl rfl rfl ?_
  refine AE rfl rfl rfl ?_
  refine AE rfl rfl rfl ?_
  refine AE rfl rfl rfl ?_
  refine AE rfl rfl rfl ?_
  refine AK ?_
  refine AF ?_
  refine AO rfl ?_
  refine AC ?_
  refine AA ?_
  refine AD ?_
  refine AF ?_
  exact AJ (res1 rfl rfl) rsubZ selZ ⟨rfl, rfl⟩
 by_cases h6 : 0 ≤ d.r
 rotate_left
 ·rw [hbad (fun h => by unfold okDm at h; omega)]
  refine A6 ?_
  refine AB ?_
  refine AB ?_
  refine AH ?_
  refine AG ?_
  focus ((refine AT (isNode_spec bn _ _) rfl rfl rdZ rfl rfl ?_; rintro _ rfl; first | rw [hS] | rw [hD]))
  refine BG ?_
  refine AI ?_
  refine AB ?_
  refine AB ?_
  refine AH ?_
  refine AG ?_
  focus ((refine AT (isNode_spec bn _ _) rfl rfl rdZ rfl rfl ?_; rintro _ rfl; first | rw [hS] | rw [hD]))
  refine BG ?_
  refine AI ?_
  refine AB ?_
  refine AH ?_
  refine AG ?_
  refine AH ?_
  refine AG ?_
  refine BH ?_
  refine AI ?_
  refine AB ?_
  refine AH ?_
  refine AG ?_
  refine AZ ?_
  refine AI ?_
  refine AB ?_
  refine AH ?_
  refine AG ?_
  refine BL ?_
  refine AI ?_
  refine AB ?_
  refine AH ?_
  refine AG ?_
  refine BF ?_
  refine AI ?_
  refine AB ?_
  refine AE rfl rfl rfl ?_
  refine AE rfl rfl rfl ?_
  refine AE rfl rfl rfl ?_
  refine AE rfl rfl rfl ?_
  refine AE rfl rfl rfl ?_
  refine AK ?_
  refine AB ?_
  refine AE rfl rfl rfl ?_
  refine AE rfl rfl rfl ?_
  refine AE rfl rfl rfl ?_
  refine AK ?_
  refine AB ?_
  refine AE rfl rfl rfl ?_
  refine AE rfl rfl rfl ?_
  refine AE rfl rfl rfl ?_
  refine AE rfl rfl rfl ?_
  refine AE rfl rfl rfl ?_
  refine AE rfl rfl rfl ?_
  refine AK ?_
  refine AF ?_
  refine AO rfl ?_
  refine AC ?_
  refine AA ?_
  refine AD ?_
  refine AF ?_
  exact AJ (res1 rfl rfl) rsubZ selZ ⟨rfl, rfl⟩
 by_cases h7 : d.r < d.e
 rotate_left
 ·rw [hbad (fun h => by unfold okDm at h; omega)]
  refine A6 ?_
  refine AB ?_
  refine AB ?_
  refine AH ?_
  refine AG ?_
  focus ((refine AT (isNode_spec bn _ _) rfl rfl rdZ rfl rfl ?_; rintro _ rfl; first | rw [hS] | rw [hD]))
  refine BG ?_
  refine AI ?_
  refine AB ?_
  refine AB ?_
  refine AH ?_
  refine AG ?_
  focus ((refine AT (isNode_spec bn _ _) rfl rfl rdZ rfl rfl ?_; rintro _ rfl; first | rw [hS] | rw [hD]))
  refine BG ?_
  refine AI ?_
  refine AB ?_
  refine AH ?_
  refine AG ?_
  refine AH ?_
  refine AG ?_
  refine BH ?_
  refine AI ?_
  refine AB ?_
  refine AH ?_
  refine AG ?_
  refine AZ ?_
  refine AI ?_
  refine AB ?_
  refine AH ?_
  refine AG ?_
  refine BL ?_
  refine AI ?_
  refine AB ?_
  refine AH ?_
  refine AG ?_
  refine AZ ?_
  refine AI ?_
  refine AB ?_
  refine AH ?_
  refine AG ?_
  refine AH ?_
  refine AG ?_
  refine CF ?_
  refine AI ?_
  refine AB ?_
  refine AE rfl rfl rfl ?_
  refine AE rfl rfl rfl ?_
  refine AE rfl rfl rfl ?_
  refine AK ?_
  refine AB ?_
  refine AE rfl rfl rfl ?_
  refine AE rfl rfl rfl ?_
  refine AE rfl rfl rfl ?_
  refine AE rfl rfl rfl ?_
  refine AE rfl rfl rfl ?_
  refine AE rfl rfl rfl ?_
  refine AK ?_
  refine AF ?_
  refine AO rfl ?_
  refine AC ?_
  refine AA ?_
  refine AD ?_
  refine AF ?_
  exact AJ (res1 rfl rfl) rsubZ selZ ⟨rfl, rfl⟩
 by_cases h8 : d.e ≤ 1099511627776
 rotate_left
 ·rw [hbad (fun h => by unfold okDm at h; omega)]
  refine A6 ?_
  refine AB ?_
  refine AB ?_
  refine AH ?_
  refine AG ?_
  focus ((refine AT (isNode_spec bn _ _) rfl rfl rdZ rfl rfl ?_; rintro _ rfl; first | rw [hS] | rw [hD]))
  refine BG ?_
  refine AI ?_
  refine AB ?_
  refine AB ?_
  refine AH ?_
  refine AG ?_
  focus ((refine AT (isNode_spec bn _ _) rfl rfl rdZ rfl rfl ?_; rintro _ rfl; first | rw [hS] | rw [hD]))
  refine BG ?_
  refine AI ?_
  refine AB ?_
  refine AH ?_
  refine AG ?_
  refine AH ?_
  refine AG ?_
  refine BH ?_
  refine AI ?_
  refine AB ?_
  refine AH ?_
  refine AG ?_
  refine AZ ?_
  refine AI ?_
  refine AB ?_
  refine AH ?_
  refine AG ?_
  refine BL ?_
  refine AI ?_
  refine AB ?_
  refine AH ?_
  refine AG ?_
  refine AZ ?_
  refine AI ?_
  refine AB ?_
  refine AH ?_
  refine AG ?_
  refine AH ?_
  refine AG ?_
  refine BI ?_
  refine AI ?_
  refine AB ?_
  refine AH ?_
  refine AG ?_
  refine CM ?_
  refine AI ?_
  refine AB ?_
  refine AE rfl rfl rfl ?_
  refine AE rfl rfl rfl ?_
  refine AE rfl rfl rfl ?_
  refine AE rfl rfl rfl ?_
  refine AE rfl rfl rfl ?_
  refine AE rfl rfl rfl ?_
  refine AK ?_
  refine AF ?_
  refine AO rfl ?_
  refine AC ?_
  refine AA ?_
  refine AD ?_
  refine AF ?_
  exact AJ (res1 rfl rfl) rsubZ selZ ⟨rfl, rfl⟩
 by_cases h9 : d.e - d.r ≤ 100
 rotate_left
 ·rw [hbad (fun h => by unfold okDm at h; omega)]
  refine A6 ?_
  refine AB ?_
  refine AB ?_
  refine AH ?_
  refine AG ?_
  focus ((refine AT (isNode_spec bn _ _) rfl rfl rdZ rfl rfl ?_; rintro _ rfl; first | rw [hS] | rw [hD]))
  refine BG ?_
  refine AI ?_
  refine AB ?_
  refine AB ?_
  refine AH ?_
  refine AG ?_
  focus ((refine AT (isNode_spec bn _ _) rfl rfl rdZ rfl rfl ?_; rintro _ rfl; first | rw [hS] | rw [hD]))
  refine BG ?_
  refine AI ?_
  refine AB ?_
  refine AH ?_
  refine AG ?_
  refine AH ?_
  refine AG ?_
  refine BH ?_
  refine AI ?_
  refine AB ?_
  refine AH ?_
  refine AG ?_
  refine AZ ?_
  refine AI ?_
  refine AB ?_
  refine AH ?_
  refine AG ?_
  refine BL ?_
  refine AI ?_
  refine AB ?_
  refine AH ?_
  refine AG ?_
  refine AZ ?_
  refine AI ?_
  refine AB ?_
  refine AH ?_
  refine AG ?_
  refine AH ?_
  refine AG ?_
  refine BI ?_
  refine AI ?_
  refine AB ?_
  refine AH ?_
  refine AG ?_
  refine BL ?_
  refine AI ?_
  refine AB ?_
  refine AH ?_
  refine AG ?_
  refine AH ?_
  refine AG ?_
  refine CG ?_
  refine CM ?_
  refine AI ?_
  refine AF ?_
  refine AO rfl ?_
  refine AC ?_
  refine AA ?_
  refine AD ?_
  refine AF ?_
  exact AJ (res1 rfl rfl) rsubZ selZ ⟨rfl, rfl⟩
 have hv : validT qs cs bs hs d = true := decide_eq_true ⟨h0, by unfold okDm; omega⟩
 rw [hv]
 refine A6 ?_
 refine AB ?_
 refine AB ?_
 refine AH ?_
 refine AG ?_
 focus ((refine AT (isNode_spec bn _ _) rfl rfl rdZ rfl rfl ?_; rintro _ rfl; first | rw [hS] | rw [hD]))
 refine BG ?_
 refine AI ?_
 refine AB ?_
 refine AB ?_
 refine AH ?_
 refine AG ?_
 focus ((refine AT (isNode_spec bn _ _) rfl rfl rdZ rfl rfl ?_; rintro _ rfl; first | rw [hS] | rw [hD]))
 refine BG ?_
 refine AI ?_
 refine AB ?_
 refine AH ?_
 refine AG ?_
 refine AH ?_
 refine AG ?_
 refine BH ?_
 refine AI ?_
 refine AB ?_
 refine AH ?_
 refine AG ?_
 refine AZ ?_
 refine AI ?_
 refine AB ?_
 refine AH ?_
 refine AG ?_
 refine BL ?_
 refine AI ?_
 refine AB ?_
 refine AH ?_
 refine AG ?_
 refine AZ ?_
 refine AI ?_
 refine AB ?_
 refine AH ?_
 refine AG ?_
 refine AH ?_
 refine AG ?_
 refine BI ?_
 refine AI ?_
 refine AB ?_
 refine AH ?_
 refine AG ?_
 refine BL ?_
 refine AI ?_
 refine AB ?_
 refine AH ?_
 refine AG ?_
 refine AH ?_
 refine AG ?_
 refine CG ?_
 refine BL ?_
 refine AI ?_
 refine AF ?_
 refine AN rfl ?_
 refine AL ?_
 refine AC ?_
 refine AA ?_
 refine AD ?_
 refine AF ?_
 exact AJ (res1 rfl rfl) rsubZ selZ ⟨rfl, rfl⟩
end Go.Proofs.YtknfhiolenobaaaGreat
/- Rooms, arrivals, shipments. -/
namespace Go.Proofs.YtknfhiolenobaaaGreat
open Go.Eng Go.Step
set_option maxRecDepth 100000
set_option maxHeartbeats 4000000

set_option maxHeartbeats 16000000 in
theorem certRoom_spec {ρ τ σ υ : PH} {pq pc pb ph : Option Addr} {kq kc kb kh : Nat} {qs : List Int} {cs : List Ct} {bs : List Bk} {hs : List Hd} (hT : TbAt ρ τ σ υ pq pc pb ph kq kc kb kh qs cs bs hs) (nn : Nat) (t Q : Int) (hQ : qs[nn]? = some Q) (hQb : 0 ≤ Q ∧ Q ≤ 1073741824) (hok : ∀ h ∈ hs, okHd qs.length h) (hl : hs.length ≤ 600) :
  Ans Tryz.prog (fv 26) [.agg #[.slice pq qs.length kq, .slice pc cs.length kc, .slice pb bs.length kb, .slice ph hs.length kh], int nn, int t] [ρ, τ, σ, υ] (fun r => r = int (Q - Step.stored hs nn t)) := by
 have hr := hT.rh
 have hnl := (List.getElem?_eq_some_iff.1 hQ).1
 refine spec_in (cap := []) Tryz.func26 rfl rfl Tryz.ntmps26 rfl envZ (fun N β => ?_)
 refine AC ?_
 refine AA ?_
 refine BT (BV rfl) rfl rfl rfl ?_
 rintro _ _ ⟨b1, rfl, rfl⟩
 refine AV (ρ := sng b1 _) takeZ ?_
 have ct : RdN (sng b1 (.cells #[.slice pq qs.length kq, .slice pc cs.length kc, .slice pb bs.length kb, .slice ph hs.length kh] 29 (0, 0))) b1 0 [.slice pq qs.length kq, .slice pc cs.length kc, .slice pb bs.length kb, .slice ph hs.length kh] := rdN_sng (vs := [.slice pq qs.length kq, .slice pc cs.length kc, .slice pb bs.length kb, .slice ph hs.length kh])
 have ct0 : rdc (sng b1 (.cells #[.slice pq qs.length kq, .slice pc cs.length kc, .slice pb bs.length kb, .slice ph hs.length kh] 29 (0, 0))) b1 0 = some (.slice pq qs.length kq) := by rw [rdc_sng]; rfl
 have ct1 : rdc (sng b1 (.cells #[.slice pq qs.length kq, .slice pc cs.length kc, .slice pb bs.length kb, .slice ph hs.length kh] 29 (0, 0))) b1 1 = some (.slice pc cs.length kc) := by rw [rdc_sng]; rfl
 have ct2 : rdc (sng b1 (.cells #[.slice pq qs.length kq, .slice pc cs.length kc, .slice pb bs.length kb, .slice ph hs.length kh] 29 (0, 0))) b1 2 = some (.slice pb bs.length kb) := by rw [rdc_sng]; rfl
 have ct3 : rdc (sng b1 (.cells #[.slice pq qs.length kq, .slice pc cs.length kc, .slice pb bs.length kb, .slice ph hs.length kh] 29 (0, 0))) b1 3 = some (.slice ph hs.length kh) := by rw [rdc_sng]; rfl
 have ctp : RdP (sng b1 (.cells #[.slice pq qs.length kq, .slice pc cs.length kc, .slice pb bs.length kb, .slice ph hs.length kh] 29 (0, 0))) b1 0 [.slice pq qs.length kq, .slice pc cs.length kc] := rdP_sng (xs := [.slice pq qs.length kq, .slice pc cs.length kc, .slice pb bs.length kb, .slice ph hs.length kh]) rfl
 obtain ⟨bq, oq, rfl, gq⟩ := hT.rq.int hQ
 refine AD ?_
 refine AF ?_
 refine AC ?_
 refine AA ?_
 refine AH ?_
 refine AH ?_
 refine AG ?_
 refine AB ?_
 refine BS ?_
 refine AG ?_
 refine AD ?_
 refine AF ?_
 refine AC ?_
 refine AC ?_
 refine AA ?_
 refine AH ?_
 refine AG ?_
 refine A0 ?_
 refine AB ?_
 refine AF ?_
 refine AQ ?_
 refine BN [1, 2, 17, 18] (0 : Nat) (fun k => k ≤ hs.length) (fun k => [(19, int k), (7, int (Q - Step.stored (hs.take k) nn t))]) (fun _ => []) (fun k => hs.length - k) pickZ (by omega) ?_ selZ ?_
 ·rw [List.take_zero]
  simp only [Step.stored, Int.sub_zero]
  exact covZ
 intro k hk
 by_cases hlt : k < hs.length
 ·have hx := List.getElem?_eq_getElem hlt
  have hh := (hok _ (List.getElem_mem hlt)).2.2.1
  obtain ⟨b3, o3, rfl, hrd, g0, g1, g2, g3, _⟩ := hdRow5 hr hx
  have hm := stored_snoc nn t hs[k] (hs.take k)
  rw [← List.take_succ_eq_append_getElem hlt] at hm
  have hb := stored_bd (n := nn) (t := t) (l := hs.take k) (fun h hm => hok h (List.mem_of_mem_take hm))
  rw [List.length_take, Nat.min_eq_left hk] at hb
  generalize hs[k] = h at hrd g0 g1 g2 g3 hm hh
  generalize Step.stored (hs.take k) nn t = s at hm hb
  by_cases c1 : h.n = nn
  ·by_cases c2 : h.a ≤ t
   ·by_cases c3 : t < h.b
    ·rw [if_pos ⟨c1, c2, c3⟩] at hm
     refine AC ?_
     refine AA ?_
     refine BF ?_
     refine AF ?_
     refine AC ?_
     refine AO rfl ?_
     refine AL ?_
     refine AC ?_
     refine AQ ?_
     refine AC ?_
     refine AA ?_
     refine BC ?_
     refine AM ?_
     refine AW ?_; rintro _ _ ⟨b, rfl, rfl⟩
     refine AU ?_; rintro _ _ ⟨rfl, rfl⟩
     refine AF ?_
     refine AC ?_
     refine AA ?_
     refine AH ?_
     refine AG ?_
     refine AB ?_
     refine B7 ?_
     refine AB ?_
     refine AH ?_
     refine AG ?_
     refine AB ?_
     refine CU ?_
     refine AK ?_
     refine AB ?_
     refine AB ?_
     refine AH ?_
     refine AG ?_
     refine BF ?_
     refine AK ?_
     refine AF ?_
     refine AO rfl ?_
     refine AA ?_
     refine AB ?_
     refine AH ?_
     refine AG ?_
     refine CG ?_
     refine AD ?_
     refine AF ?_
     refine A7 ?_
     refine AA ?_
     refine BA ?_
     refine AB ?_
     refine AF ?_
     refine A4 (k + 1) (by omega) (by omega) ?_ selZ
     rw [hm, show Q - (s + h.s) = Q - s - h.s by omega]
     exact covZ
    ·rw [if_neg (by omega), Int.add_zero] at hm
     refine AC ?_
     refine AA ?_
     refine BF ?_
     refine AF ?_
     refine AC ?_
     refine AO rfl ?_
     refine AL ?_
     refine AC ?_
     refine AQ ?_
     refine AC ?_
     refine AA ?_
     refine BC ?_
     refine AM ?_
     refine AW ?_; rintro _ _ ⟨b, rfl, rfl⟩
     refine AU ?_; rintro _ _ ⟨rfl, rfl⟩
     refine AF ?_
     refine AC ?_
     refine AA ?_
     refine AH ?_
     refine AG ?_
     refine AB ?_
     refine B7 ?_
     refine AB ?_
     refine AH ?_
     refine AG ?_
     refine AB ?_
     refine CU ?_
     refine AK ?_
     refine AB ?_
     refine AB ?_
     refine AH ?_
     refine AG ?_
     refine AZ ?_
     refine AK ?_
     refine AF ?_
     refine AN rfl ?_
     refine AL ?_
     refine A7 ?_
     refine AA ?_
     refine BA ?_
     refine AB ?_
     refine AF ?_
     refine A4 (k + 1) (by omega) (by omega) ?_ selZ
     rw [hm]
     exact covZ
   ·rw [if_neg (by omega), Int.add_zero] at hm
    refine AC ?_
    refine AA ?_
    refine BF ?_
    refine AF ?_
    refine AC ?_
    refine AO rfl ?_
    refine AL ?_
    refine AC ?_
    refine AQ ?_
    refine AC ?_
    refine AA ?_
    refine BC ?_
    refine AM ?_
    refine AW ?_; rintro _ _ ⟨b, rfl, rfl⟩
    refine AU ?_; rintro _ _ ⟨rfl, rfl⟩
    refine AF ?_
    refine AC ?_
    refine AA ?_
    refine AH ?_
    refine AG ?_
    refine AB ?_
    refine B7 ?_
    refine AB ?_
    refine AH ?_
    refine AG ?_
    refine AB ?_
    refine CD ?_
    refine AK ?_
    refine AB ?_
    refine AE rfl rfl rfl ?_
    refine AE rfl rfl rfl ?_
    refine AE rfl rfl rfl ?_
    refine AE rfl rfl rfl ?_
    refine AI ?_
    refine AF ?_
    refine AN rfl ?_
    refine AL ?_
    refine A7 ?_
    refine AA ?_
    refine BA ?_
    refine AB ?_
    refine AF ?_
    refine A4 (k + 1) (by omega) (by omega) ?_ selZ
    rw [hm]
    exact covZ
  ·rw [if_neg (by omega), Int.add_zero] at hm
   refine AC ?_
   refine AA ?_
   refine BF ?_
   refine AF ?_
   refine AC ?_
   refine AO rfl ?_
   refine AL ?_
   refine AC ?_
   refine AQ ?_
   refine AC ?_
   refine AA ?_
   refine BC ?_
   refine AM ?_
   refine AW ?_; rintro _ _ ⟨b, rfl, rfl⟩
   refine AU ?_; rintro _ _ ⟨rfl, rfl⟩
   refine AF ?_
   refine AC ?_
   refine AA ?_
   refine AH ?_
   refine AG ?_
   refine AB ?_
   refine BH ?_
   refine AB ?_
   refine AE rfl rfl rfl ?_
   refine AE rfl rfl rfl ?_
   refine AE rfl rfl rfl ?_
   refine AE rfl rfl rfl ?_
   refine AI ?_
   refine AB ?_
   refine AE rfl rfl rfl ?_
   refine AE rfl rfl rfl ?_
   refine AE rfl rfl rfl ?_
   refine AE rfl rfl rfl ?_
   refine AI ?_
   refine AF ?_
   refine AN rfl ?_
   refine AL ?_
   refine A7 ?_
   refine AA ?_
   refine BA ?_
   refine AB ?_
   refine AF ?_
   refine A4 (k + 1) (by omega) (by omega) ?_ selZ
   rw [hm]
   exact covZ
 ·have hke : k = hs.length := by omega
  subst hke
  rw [List.take_length]
  refine AC ?_
  refine AA ?_
  refine AZ ?_
  refine AF ?_
  refine AC ?_
  refine AN rfl ?_
  refine A8 rfl ?_
  refine AC ?_
  refine AA ?_
  refine AB ?_
  refine AD ?_
  refine AF ?_
  exact AJ (res1 rfl rfl) rsubZ selZ ⟨rfl, rfl⟩
theorem arrival_spec (c : Ct) (t : Int) (h1 : In64 (t + 1)) (h2 : In64 (t + 1 + c.g)) : Ans Tryz.prog (fv 30) [.agg #[int c.f, int c.t, int c.s, int c.e, int c.r, int c.g, int c.l], int t] [] (fun r => r = int (t + 1 + c.g)) := by
 refine spec_in (cap := []) Tryz.func30 rfl rfl Tryz.ntmps30 rfl envZ (fun N β => ?_)
 unfold In64 at h1 h2
 refine AC ?_
 refine AA ?_
 refine BX ?_; rintro _ _ ⟨b, rfl, rfl⟩
 refine AD ?_
 refine AF ?_
 refine AC ?_
 refine AA ?_
 refine AB ?_
 refine B8 ?_
 refine AH ?_
 refine AG ?_
 refine B8 ?_
 refine AD ?_
 refine AF ?_
 exact AJ (res1 rfl rfl) rsubZ selZ ⟨rfl, rfl⟩
def encX (x : Sh) : List Value := [int x.c, int x.t, int x.n]
theorem encX_len (x : Sh) : (encX x).length = 3 := rfl
abbrev ShAt (ρ : PH) (v : Value) (l : List Sh) : Prop := SlE encX 3 ρ v l
theorem shRow {ρ : PH} {p : Option Addr} {l : List Sh} (h : RowsE encX 3 ρ p l) {i : Nat} {x : Sh} (hx : l[i]? = some x) :
  ∃ b o, p = some ⟨b, o, none⟩ ∧ RdN ρ b (o + i * 3) [int x.c, int x.t, int x.n] ∧ rdc ρ b (o + i * 3) = some (int x.c) ∧ rdc ρ b (o + i * 3 + 1) = some (int x.t) ∧ rdc ρ b (o + i * 3 + 2) = some (int x.n) := by
 obtain ⟨b, o, e, hr⟩ := h i x hx
 exact ⟨b, o, e, hr, hr.get0, hr.get (j := 1) rfl, hr.get (j := 2) rfl⟩
set_option maxHeartbeats 32000000 in
theorem checkShip_spec {ρ τ σ υ : PH} {pq pc pb ph : Option Addr} {kq kc kb kh : Nat} {qs : List Int} {cs : List Ct} {bs : List Bk} {hs : List Hd} (hT : TbAt ρ τ σ υ pq pc pb ph kq kc kb kh qs cs bs hs) (d : Dm) (x : Sh) (hcs : ∀ c ∈ cs, chkCt c = 0) (hbl : bs.length ≤ 1000) (hd : 0 ≤ d.r) :
  Ans Tryz.prog (fv 22) [.agg #[.slice pq qs.length kq, .slice pc cs.length kc, .slice pb bs.length kb, .slice ph hs.length kh], .agg #[int d.s, int d.d, int d.v, int d.r, int d.e], .agg #[int x.c, int x.t, int x.n]] [ρ, τ, σ, υ] (fun r => r = int (ship1 cs bs d x)) := by
 refine spec_in (cap := []) Tryz.func22 rfl rfl Tryz.ntmps22 rfl envZ (fun N β => ?_)
 refine AC ?_
 refine AA ?_
 refine BT (BV rfl) rfl rfl rfl ?_
 rintro _ _ ⟨b1, rfl, rfl⟩
 refine AV (ρ := sng b1 _) takeZ ?_
 have ct : RdN (sng b1 (.cells #[.slice pq qs.length kq, .slice pc cs.length kc, .slice pb bs.length kb, .slice ph hs.length kh] 29 (0, 0))) b1 0 [.slice pq qs.length kq, .slice pc cs.length kc, .slice pb bs.length kb, .slice ph hs.length kh] := rdN_sng (vs := [.slice pq qs.length kq, .slice pc cs.length kc, .slice pb bs.length kb, .slice ph hs.length kh])
 have ct0 : rdc (sng b1 (.cells #[.slice pq qs.length kq, .slice pc cs.length kc, .slice pb bs.length kb, .slice ph hs.length kh] 29 (0, 0))) b1 0 = some (.slice pq qs.length kq) := by rw [rdc_sng]; rfl
 have ct1 : rdc (sng b1 (.cells #[.slice pq qs.length kq, .slice pc cs.length kc, .slice pb bs.length kb, .slice ph hs.length kh] 29 (0, 0))) b1 1 = some (.slice pc cs.length kc) := by rw [rdc_sng]; rfl
 have ct2 : rdc (sng b1 (.cells #[.slice pq qs.length kq, .slice pc cs.length kc, .slice pb bs.length kb, .slice ph hs.length kh] 29 (0, 0))) b1 2 = some (.slice pb bs.length kb) := by rw [rdc_sng]; rfl
 have ct3 : rdc (sng b1 (.cells #[.slice pq qs.length kq, .slice pc cs.length kc, .slice pb bs.length kb, .slice ph hs.length kh] 29 (0, 0))) b1 3 = some (.slice ph hs.length kh) := by rw [rdc_sng]; rfl
 have ctp : RdP (sng b1 (.cells #[.slice pq qs.length kq, .slice pc cs.length kc, .slice pb bs.length kb, .slice ph hs.length kh] 29 (0, 0))) b1 0 [.slice pq qs.length kq, .slice pc cs.length kc] := rdP_sng (xs := [.slice pq qs.length kq, .slice pc cs.length kc, .slice pb bs.length kb, .slice ph hs.length kh]) rfl
 refine BT (BV rfl) rfl rfl rfl ?_
 rintro _ _ ⟨b2, rfl, rfl⟩
 refine AV (ρ := sng b2 _) takeZ ?_
 have cd : RdN (sng b2 (.cells #[int d.s, int d.d, int d.v, int d.r, int d.e] 31 (0, 0))) b2 0 [int d.s, int d.d, int d.v, int d.r, int d.e] := rdN_sng (vs := [int d.s, int d.d, int d.v, int d.r, int d.e])
 have cd0 : rdc (sng b2 (.cells #[int d.s, int d.d, int d.v, int d.r, int d.e] 31 (0, 0))) b2 0 = some (int d.s) := by rw [rdc_sng]; rfl
 have cd1 : rdc (sng b2 (.cells #[int d.s, int d.d, int d.v, int d.r, int d.e] 31 (0, 0))) b2 1 = some (int d.d) := by rw [rdc_sng]; rfl
 have cd2 : rdc (sng b2 (.cells #[int d.s, int d.d, int d.v, int d.r, int d.e] 31 (0, 0))) b2 2 = some (int d.v) := by rw [rdc_sng]; rfl
 have cd3 : rdc (sng b2 (.cells #[int d.s, int d.d, int d.v, int d.r, int d.e] 31 (0, 0))) b2 3 = some (int d.r) := by rw [rdc_sng]; rfl
 have cd4 : rdc (sng b2 (.cells #[int d.s, int d.d, int d.v, int d.r, int d.e] 31 (0, 0))) b2 4 = some (int d.e) := by rw [rdc_sng]; rfl
 refine BT (BV rfl) rfl rfl rfl ?_
 rintro _ _ ⟨b3, rfl, rfl⟩
 refine AV (ρ := sng b3 _) takeZ ?_
 have cx : RdN (sng b3 (.cells #[int x.c, int x.t, int x.n] 68 (0, 0))) b3 0 [int x.c, int x.t, int x.n] := rdN_sng (vs := [int x.c, int x.t, int x.n])
 have cx0 : rdc (sng b3 (.cells #[int x.c, int x.t, int x.n] 68 (0, 0))) b3 0 = some (int x.c) := by rw [rdc_sng]; rfl
 have cx1 : rdc (sng b3 (.cells #[int x.c, int x.t, int x.n] 68 (0, 0))) b3 1 = some (int x.t) := by rw [rdc_sng]; rfl
 have cx2 : rdc (sng b3 (.cells #[int x.c, int x.t, int x.n] 68 (0, 0))) b3 2 = some (int x.n) := by rw [rdc_sng]; rfl
 unfold ship1
 by_cases h1 : x.c < 0
 ·rw [if_pos (.inl h1)]
  refine AD ?_
  refine AF ?_
  refine AC ?_
  refine AC ?_
  refine AA ?_
  refine AH ?_
  refine AG ?_
  refine BF ?_
  refine AB ?_
  refine AE rfl rfl rfl ?_
  refine AE rfl rfl rfl ?_
  refine AE rfl rfl rfl ?_
  refine AE rfl rfl rfl ?_
  refine AE rfl rfl rfl ?_
  refine AE rfl rfl rfl ?_
  refine AE rfl rfl rfl ?_
  refine AK ?_
  refine AF ?_
  refine AO rfl ?_
  refine AC ?_
  refine AA ?_
  refine AD ?_
  refine AF ?_
  exact AJ (res1 rfl rfl) rsubZ selZ ⟨rfl, rfl⟩
 by_cases h2 : (cs.length : Int) ≤ x.c
 ·rw [if_pos (.inr h2)]
  refine AD ?_
  refine AF ?_
  refine AC ?_
  refine AC ?_
  refine AA ?_
  refine AH ?_
  refine AG ?_
  refine AZ ?_
  refine AB ?_
  refine AH ?_
  refine AG ?_
  refine AH ?_
  refine AH ?_
  refine AG ?_
  refine A0 ?_
  refine CF ?_
  refine AI ?_
  refine AF ?_
  refine AO rfl ?_
  refine AC ?_
  refine AA ?_
  refine AD ?_
  refine AF ?_
  exact AJ (res1 rfl rfl) rsubZ selZ ⟨rfl, rfl⟩
 rw [if_neg (by omega)]
 obtain ⟨nn, hnn⟩ : ∃ nn : Nat, x.c = nn := ⟨x.c.toNat, by omega⟩
 have hlt : nn < cs.length := by omega
 have hx := List.getElem?_eq_getElem hlt
 have hck := chkCt_all (hcs _ (List.getElem_mem hlt))
 obtain ⟨b4, o4, rfl, hrd⟩ := ctRow hT.rc hx
 have hbk := booked_spec hT x.c x.t hbl
 rw [hnn] at hbk
 have e1 : cs[x.c.toNat]? = some cs[nn] := by rw [hnn, Int.toNat_natCast]; exact hx
 have e2 : bookedB bs x.c x.t = bookedB bs nn x.t := by rw [hnn]
 rw [e1, e2]
 have cn : rdc (sng b3 (.cells #[int x.c, int x.t, int x.n] 68 (0, 0))) b3 0 = some (int nn) := by rw [rdc_sng, ← hnn]; rfl
 clear cx0
 generalize cs[nn] = c at hrd hck
 dsimp only
 by_cases h3 : x.t < d.r
 ·rw [if_pos (.inl h3)]
  refine AD ?_
  refine AF ?_
  refine AC ?_
  refine AC ?_
  refine AA ?_
  refine AH ?_
  refine AG ?_
  refine AZ ?_
  refine AB ?_
  refine AH ?_
  refine AG ?_
  refine AH ?_
  refine AH ?_
  refine AG ?_
  refine A0 ?_
  refine BI ?_
  refine AI ?_
  refine AF ?_
  refine AN rfl ?_
  refine AL ?_
  refine AC ?_
  refine AA ?_
  refine AH ?_
  refine AH ?_
  refine AG ?_
  refine AH ?_
  refine AG ?_
  refine BC ?_
  refine AM ?_
  refine AW ?_; rintro _ _ ⟨b, rfl, rfl⟩
  refine AU ?_; rintro _ _ ⟨rfl, rfl⟩
  refine AF ?_
  refine AC ?_
  refine AC ?_
  refine AA ?_
  refine AH ?_
  refine AG ?_
  refine AH ?_
  refine AG ?_
  refine AH ?_
  refine AG ?_
  refine CN ?_
  refine BF ?_
  refine AB ?_
  refine AE rfl rfl rfl ?_
  refine AE rfl rfl rfl ?_
  refine AE rfl rfl rfl ?_
  refine AE rfl rfl rfl ?_
  refine AE rfl rfl rfl ?_
  refine AK ?_
  refine AB ?_
  refine AE rfl rfl rfl ?_
  refine AE rfl rfl rfl ?_
  refine AE rfl rfl rfl ?_
  refine AK ?_
  refine AB ?_
  refine AE rfl rfl rfl ?_
  refine AE rfl rfl rfl ?_
  refine AE rfl rfl rfl ?_
  refine AE rfl rfl rfl ?_
  refine AE rfl rfl rfl ?_
  refine AK ?_
  refine AF ?_
  refine AO rfl ?_
  refine AC ?_
  refine AA ?_
  refine AD ?_
  refine AF ?_
  exact AJ (res1 rfl rfl) rsubZ selZ ⟨rfl, rfl⟩
 by_cases h4 : x.t < c.s
 ·rw [if_pos (.inr (.inl h4))]
  refine AD ?_
  refine AF ?_
  refine AC ?_
  refine AC ?_
  refine AA ?_
  refine AH ?_
  refine AG ?_
  refine AZ ?_
  refine AB ?_
  refine AH ?_
  refine AG ?_
  refine AH ?_
  refine AH ?_
  refine AG ?_
  refine A0 ?_
  refine BI ?_
  refine AI ?_
  refine AF ?_
  refine AN rfl ?_
  refine AL ?_
  refine AC ?_
  refine AA ?_
  refine AH ?_
  refine AH ?_
  refine AG ?_
  refine AH ?_
  refine AG ?_
  refine BC ?_
  refine AM ?_
  refine AW ?_; rintro _ _ ⟨b, rfl, rfl⟩
  refine AU ?_; rintro _ _ ⟨rfl, rfl⟩
  refine AF ?_
  refine AC ?_
  refine AC ?_
  refine AA ?_
  refine AH ?_
  refine AG ?_
  refine AH ?_
  refine AG ?_
  refine AH ?_
  refine AG ?_
  refine CN ?_
  refine BF ?_
  refine AB ?_
  refine AE rfl rfl rfl ?_
  refine AE rfl rfl rfl ?_
  refine AE rfl rfl rfl ?_
  refine AE rfl rfl rfl ?_
  refine AE rfl rfl rfl ?_
  refine AK ?_
  refine AB ?_
  refine AE rfl rfl rfl ?_
  refine AE rfl rfl rfl ?_
  refine AE rfl rfl rfl ?_
  refine AK ?_
  refine AB ?_
  refine AE rfl rfl rfl ?_
  refine AE rfl rfl rfl ?_
  refine AE rfl rfl rfl ?_
  refine AE rfl rfl rfl ?_
  refine AE rfl rfl rfl ?_
  refine AK ?_
  refine AF ?_
  refine AO rfl ?_
  refine AC ?_
  refine AA ?_
  refine AD ?_
  refine AF ?_
  exact AJ (res1 rfl rfl) rsubZ selZ ⟨rfl, rfl⟩
 by_cases h5 : c.e ≤ x.t
 ·rw [if_pos (.inr (.inr (.inl h5)))]
  refine AD ?_
  refine AF ?_
  refine AC ?_
  refine AC ?_
  refine AA ?_
  refine AH ?_
  refine AG ?_
  refine AZ ?_
  refine AB ?_
  refine AH ?_
  refine AG ?_
  refine AH ?_
  refine AH ?_
  refine AG ?_
  refine A0 ?_
  refine BI ?_
  refine AI ?_
  refine AF ?_
  refine AN rfl ?_
  refine AL ?_
  refine AC ?_
  refine AA ?_
  refine AH ?_
  refine AH ?_
  refine AG ?_
  refine AH ?_
  refine AG ?_
  refine BC ?_
  refine AM ?_
  refine AW ?_; rintro _ _ ⟨b, rfl, rfl⟩
  refine AU ?_; rintro _ _ ⟨rfl, rfl⟩
  refine AF ?_
  refine AC ?_
  refine AC ?_
  refine AA ?_
  refine AH ?_
  refine AG ?_
  refine AH ?_
  refine AG ?_
  refine AH ?_
  refine AG ?_
  refine CN ?_
  refine AZ ?_
  refine AB ?_
  refine AH ?_
  refine AG ?_
  refine AH ?_
  refine AG ?_
  refine CF ?_
  refine AI ?_
  refine AB ?_
  refine AE rfl rfl rfl ?_
  refine AE rfl rfl rfl ?_
  refine AE rfl rfl rfl ?_
  refine AK ?_
  refine AB ?_
  refine AE rfl rfl rfl ?_
  refine AE rfl rfl rfl ?_
  refine AE rfl rfl rfl ?_
  refine AE rfl rfl rfl ?_
  refine AE rfl rfl rfl ?_
  refine AK ?_
  refine AF ?_
  refine AO rfl ?_
  refine AC ?_
  refine AA ?_
  refine AD ?_
  refine AF ?_
  exact AJ (res1 rfl rfl) rsubZ selZ ⟨rfl, rfl⟩
 by_cases h6 : x.n < 1
 ·rw [if_pos (.inr (.inr (.inr (.inl h6))))]
  refine AD ?_
  refine AF ?_
  refine AC ?_
  refine AC ?_
  refine AA ?_
  refine AH ?_
  refine AG ?_
  refine AZ ?_
  refine AB ?_
  refine AH ?_
  refine AG ?_
  refine AH ?_
  refine AH ?_
  refine AG ?_
  refine A0 ?_
  refine BI ?_
  refine AI ?_
  refine AF ?_
  refine AN rfl ?_
  refine AL ?_
  refine AC ?_
  refine AA ?_
  refine AH ?_
  refine AH ?_
  refine AG ?_
  refine AH ?_
  refine AG ?_
  refine BC ?_
  refine AM ?_
  refine AW ?_; rintro _ _ ⟨b, rfl, rfl⟩
  refine AU ?_; rintro _ _ ⟨rfl, rfl⟩
  refine AF ?_
  refine AC ?_
  refine AC ?_
  refine AA ?_
  refine AH ?_
  refine AG ?_
  refine AH ?_
  refine AG ?_
  refine AH ?_
  refine AG ?_
  refine CN ?_
  refine AZ ?_
  refine AB ?_
  refine AH ?_
  refine AG ?_
  refine AH ?_
  refine AG ?_
  refine BI ?_
  refine AI ?_
  refine AB ?_
  refine AH ?_
  refine AG ?_
  refine BF ?_
  refine AI ?_
  refine AB ?_
  refine AE rfl rfl rfl ?_
  refine AE rfl rfl rfl ?_
  refine AE rfl rfl rfl ?_
  refine AE rfl rfl rfl ?_
  refine AE rfl rfl rfl ?_
  refine AK ?_
  refine AF ?_
  refine AO rfl ?_
  refine AC ?_
  refine AA ?_
  refine AD ?_
  refine AF ?_
  exact AJ (res1 rfl rfl) rsubZ selZ ⟨rfl, rfl⟩
 by_cases h7 : c.r < x.n
 ·rw [if_pos (.inr (.inr (.inr (.inr h7))))]
  refine AD ?_
  refine AF ?_
  refine AC ?_
  refine AC ?_
  refine AA ?_
  refine AH ?_
  refine AG ?_
  refine AZ ?_
  refine AB ?_
  refine AH ?_
  refine AG ?_
  refine AH ?_
  refine AH ?_
  refine AG ?_
  refine A0 ?_
  refine BI ?_
  refine AI ?_
  refine AF ?_
  refine AN rfl ?_
  refine AL ?_
  refine AC ?_
  refine AA ?_
  refine AH ?_
  refine AH ?_
  refine AG ?_
  refine AH ?_
  refine AG ?_
  refine BC ?_
  refine AM ?_
  refine AW ?_; rintro _ _ ⟨b, rfl, rfl⟩
  refine AU ?_; rintro _ _ ⟨rfl, rfl⟩
  refine AF ?_
  refine AC ?_
  refine AC ?_
  refine AA ?_
  refine AH ?_
  refine AG ?_
  refine AH ?_
  refine AG ?_
  refine AH ?_
  refine AG ?_
  refine CN ?_
  refine AZ ?_
  refine AB ?_
  refine AH ?_
  refine AG ?_
  refine AH ?_
  refine AG ?_
  refine BI ?_
  refine AI ?_
  refine AB ?_
  refine AH ?_
  refine AG ?_
  refine AZ ?_
  refine AI ?_
  refine AB ?_
  refine AH ?_
  refine AG ?_
  refine AH ?_
  refine AG ?_
  refine CM ?_
  refine AI ?_
  refine AF ?_
  refine AO rfl ?_
  refine AC ?_
  refine AA ?_
  refine AD ?_
  refine AF ?_
  exact AJ (res1 rfl rfl) rsubZ selZ ⟨rfl, rfl⟩
 rw [if_neg (by omega)]
 have harr := arrival_spec c x.t ⟨by omega, by omega⟩ ⟨by omega, by omega⟩
 refine AD ?_
 refine AF ?_
 refine AC ?_
 refine AC ?_
 refine AA ?_
 refine AH ?_
 refine AG ?_
 refine AZ ?_
 refine AB ?_
 refine AH ?_
 refine AG ?_
 refine AH ?_
 refine AH ?_
 refine AG ?_
 refine A0 ?_
 refine BI ?_
 refine AI ?_
 refine AF ?_
 refine AN rfl ?_
 refine AL ?_
 refine AC ?_
 refine AA ?_
 refine AH ?_
 refine AH ?_
 refine AG ?_
 refine AH ?_
 refine AG ?_
 refine BC ?_
 refine AM ?_
 refine AW ?_; rintro _ _ ⟨b, rfl, rfl⟩
 refine AU ?_; rintro _ _ ⟨rfl, rfl⟩
 refine AF ?_
 refine AC ?_
 refine AC ?_
 refine AA ?_
 refine AH ?_
 refine AG ?_
 refine AH ?_
 refine AG ?_
 refine AH ?_
 refine AG ?_
 refine CN ?_
 refine AZ ?_
 refine AB ?_
 refine AH ?_
 refine AG ?_
 refine AH ?_
 refine AG ?_
 refine BI ?_
 refine AI ?_
 refine AB ?_
 refine AH ?_
 refine AG ?_
 refine AZ ?_
 refine AI ?_
 refine AB ?_
 refine AH ?_
 refine AG ?_
 refine AH ?_
 refine AG ?_
 refine BL ?_
 refine AI ?_
 refine AF ?_
 refine AN rfl ?_
 refine AL ?_
 refine AC ?_
 refine AC ?_
 revert b; intro b7
 refine BM (.q 0 (.q 1 (.q 2 (.q 4 (.q 5 (.l 3 .e (.q 6 .nil))))))) [sng b7 _] rfl (by kernel_rfl) selZ ?_
 refine CQ ?_
 refine AY ?_
 refine AR ?_
 refine AY ?_
 refine AR ?_
 refine DK (CZ rfl harr rfl rfl rdZ rfl rfl ?_)
 rintro _ rfl
 by_cases h8 : d.e < x.t + 1 + c.g
 ·rw [if_pos h8]
  refine EH ?_
  refine BJ ?_
  refine AO rfl ?_
  refine AC ?_
  refine AA ?_
  refine AD ?_
  refine AF ?_
  exact AJ (res1 rfl rfl) rsubZ selZ ⟨rfl, rfl⟩
 rw [if_neg h8]
 refine EF ?_
 refine BJ ?_
 refine AN rfl ?_
 refine AL ?_
 refine AC ?_
 refine AC ?_
 refine AA ?_
 refine AM ?_
 refine AH ?_
 refine AG ?_
 refine AH ?_
 refine AG ?_
 refine AT hbk rfl rfl rdZ rfl rfl ?_
 rintro _ rfl
 cases bookedB bs nn x.t with
 | true =>
  refine AF ?_
  refine AO rfl ?_
  refine AC ?_
  refine AA ?_
  refine AD ?_
  refine AF ?_
  exact AJ (res1 rfl rfl) rsubZ selZ ⟨rfl, rfl⟩
 | false =>
  refine AF ?_
  refine AN rfl ?_
  refine AL ?_
  refine AC ?_
  refine AA ?_
  refine AD ?_
  refine AF ?_
  exact AJ (res1 rfl rfl) rsubZ selZ ⟨rfl, rfl⟩
end Go.Proofs.YtknfhiolenobaaaGreat
/- Cuts and their capacities. No program in sight. No conditions. -/
namespace Go.Step
abbrev Cu := List (List (Int × Int))
def cuAt (c : Cu) (n : Int) : List (Int × Int) := c.getD n.toNat []
def crossB (c : Cu) (f a t u : Int) : Bool := hasI (cuAt c f) a && !hasI (cuAt c t) u
def sumT (f : Int → Int) (a : Int) : Nat → Int
  | 0 => 0
  | m + 1 => sumT f a m + f (a + m)
theorem sumT_congr {f g : Int → Int} {a : Int} : ∀ {m : Nat}, (∀ k : Nat, k < m → f (a + k) = g (a + k)) → sumT f a m = sumT g a m
  | 0, _ => rfl
  | m + 1, h => by rw [sumT, sumT, sumT_congr (m := m) (fun k hk => h k (Nat.lt_succ_of_lt hk)), h m (Nat.lt_succ_self m)]
theorem sumT_bd {f : Int → Int} {B : Int} (h : ∀ t, -B ≤ f t ∧ f t ≤ B) (a : Int) : ∀ m : Nat, -(B * m) ≤ sumT f a m ∧ sumT f a m ≤ B * m
  | 0 => by simp [sumT]
  | m + 1 => by
    have ih := sumT_bd h a m
    have := h (a + m)
    have e : B * ((m + 1 : Nat) : Int) = B * (m : Int) + B := by rw [Int.natCast_succ, Int.mul_add, Int.mul_one]
    show -(B * ((m + 1 : Nat) : Int)) ≤ sumT f a m + f (a + m) ∧ sumT f a m + f (a + m) ≤ B * ((m + 1 : Nat) : Int)
    rw [e]
    omega
theorem sumT_ext {f : Int → Int} {a : Int} {m : Nat} : ∀ {k : Nat}, (∀ j : Nat, m ≤ j → j < m + k → f (a + j) = 0) → sumT f a (m + k) = sumT f a m
  | 0, _ => rfl
  | k + 1, h => by
    have h1 := sumT_ext (k := k) (fun j h1 h2 => h j h1 (by omega))
    have h2 := h (m + k) (by omega) (by omega)
    show sumT f a (m + k) + f (a + ((m + k : Nat) : Int)) = sumT f a m
    rw [h1, h2, Int.add_zero]
theorem sumT_succ0 (f : Int → Int) (n : Nat) : sumT f 0 (n + 1) = sumT f 0 n + f n := by
  show sumT f 0 n + f (0 + n) = _
  rw [Int.zero_add]
def sumU (f : Int → Int) (a t : Int) : Int := sumT f a (t - a).toNat
theorem sumU_self (f : Int → Int) (a : Int) : sumU f a a = 0 := by unfold sumU; rw [Int.sub_self]; rfl
theorem sumU_succ {f : Int → Int} {a t : Int} (h : a ≤ t) : sumU f a (t + 1) = sumU f a t + f t := by
  unfold sumU
  rw [show (t + 1 - a).toNat = (t - a).toNat + 1 by omega]
  show sumT f a (t - a).toNat + f (a + (t - a).toNat) = _
  rw [show a + ((t - a).toNat : Int) = t by omega]
theorem sumU_bd {f : Int → Int} {B a t : Int} (hB : 0 ≤ B) (h : ∀ t, -B ≤ f t ∧ f t ≤ B) (h1 : t - a ≤ 100) : -(B * 100) ≤ sumU f a t ∧ sumU f a t ≤ B * 100 := by
  have := sumT_bd h a (t - a).toNat
  have h2 : B * ((t - a).toNat : Int) ≤ B * 100 := Int.mul_le_mul_of_nonneg_left (by omega) hB
  unfold sumU
  omega
theorem sumU_ext {f : Int → Int} {a t u : Int} (h : a ≤ t) (h2 : t ≤ u) (hz : ∀ v, t ≤ v → v < u → f v = 0) : sumU f a u = sumU f a t := by
  unfold sumU
  rw [show (u - a).toNat = (t - a).toNat + (u - t).toNat by omega]
  exact sumT_ext (fun j h1 h2 => hz _ (by omega) (by omega))
def waitC (qs : List Int) (hs : List Hd) (d : Dm) (c : Cu) (n t : Int) : Int := if crossB c n t n (t + 1) then roomT qs hs d n t else 0
def conC (cs : List Ct) (bs : List Bk) (d : Dm) (c : Cu) (i t : Int) : Int :=
  match cs[i.toNat]? with
  | none => 0
  | some x => if x.s ≤ t ∧ t < x.e ∧ t + 1 + x.g ≤ d.e ∧ bookedB bs i t = false ∧ crossB c x.f t x.t (t + 1 + x.g) = true then x.r else 0
theorem waitC_bd {qs : List Int} {hs : List Hd} {nq : Nat} (hq : ∀ (j : Nat) (q : Int), qs[j]? = some q → 0 ≤ q ∧ q ≤ 1073741824) (hok : ∀ h ∈ hs, okHd nq h) (hl : hs.length ≤ 512) (d : Dm) (c : Cu) (n t : Int) : -1099511627776 ≤ waitC qs hs d c n t ∧ waitC qs hs d c n t ≤ 1099511627776 := by
  have h1 := stored_bd (n := n) (t := t) hok
  have h2 : 0 ≤ qs.getD n.toNat 0 ∧ qs.getD n.toNat 0 ≤ 1073741824 := by
    rw [List.getD_eq_getElem?_getD]
    cases e : qs[n.toNat]? with
    | none => exact ⟨by simp, by simp⟩
    | some q => exact hq _ _ e
  unfold waitC roomT
  split
  · split <;> omega
  · omega
theorem conC_bd {cs : List Ct} (h : ∀ x ∈ cs, 0 ≤ x.r ∧ x.r ≤ 1000) (bs : List Bk) (d : Dm) (c : Cu) (i t : Int) : -1000 ≤ conC cs bs d c i t ∧ conC cs bs d c i t ≤ 1000 := by
  unfold conC
  cases e : cs[i.toNat]? with
  | none => dsimp only; omega
  | some x =>
    have := h x (List.mem_of_getElem? e)
    dsimp only
    split <;> omega
def badS (d : Dm) (x : Int × Int) : Bool := decide (x.1 < d.r) || decide (d.e + 1 < x.2)
def badL2 (d : Dm) (l : List (Int × Int)) : Bool := decide (chkI l ≠ 0) || l.any (badS d)
def capW (qs : List Int) (hs : List Hd) (d : Dm) (c : Cu) : Nat → Int := sumT (fun n => sumU (waitC qs hs d c n) d.r d.e) 0
def capC (cs : List Ct) (bs : List Bk) (d : Dm) (c : Cu) : Nat → Int := sumT (fun i => sumU (conC cs bs d c i) d.r d.e) 0
def capSum (qs : List Int) (cs : List Ct) (bs : List Bk) (hs : List Hd) (d : Dm) (c : Cu) : Int := capW qs hs d c qs.length + capC cs bs d c cs.length
def capR (qs : List Int) (cs : List Ct) (bs : List Bk) (hs : List Hd) (d : Dm) (c : Cu) : Int × Int :=
  if validT qs cs bs hs d = false then (0, 1) else if c.length ≠ qs.length then (0, 10) else if c.any (badL2 d) then (0, 2)
  else if hasI (cuAt c d.s) d.r = false ∨ hasI (cuAt c d.d) d.e = true then (0, 24) else (capSum qs cs bs hs d c, 0)
end Go.Step
/- What crosses a cut. -/
namespace Go.Proofs.YtknfhiolenobaaaGreat
open Go.Eng Go.Step
set_option maxRecDepth 100000
set_option maxHeartbeats 4000000

def CutRow (ρ κ : PH) (p : Option Addr) (c : Cu) : Prop := ∀ (i : Nat) (l : List (Int × Int)), c[i]? = some l → ∃ b o q k, p = some ⟨b, o, none⟩ ∧ rdc ρ b (o + i) = some (.slice q l.length k) ∧ SpAt κ (.slice q l.length k) l ∧ l.length ≤ 9223372036854775807
theorem cuAt_get {c : Cu} {n : Nat} {l : List (Int × Int)} (h : c[n]? = some l) : cuAt c n = l := by unfold cuAt; rw [Int.toNat_natCast, List.getD_eq_getElem?_getD, h]; rfl
set_option maxHeartbeats 16000000 in
theorem cross_spec (ρ κ : PH) (bc bs' : Nat) (p : Option Addr) (kk : Nat) (c : Cu) (hc : CutRow ρ κ p c) (f t : Nat) (a u w S : Int) (hf : f < c.length) (ht : t < c.length) (hS : In64 (S + w)) :
  Eng.Spec Tryz.prog (.func (.func 29) #[] #[.pointer (some ⟨bc, 0, none⟩), .pointer (some ⟨bs', 0, none⟩)]) [int f, int a, int t, int u, int w] [sng bc (.cells #[.slice p c.length kk] 34 (0, 0)), ρ, κ] [sng bs' (.cells #[int S] 3 (0, 0))]
   (fun r H' => r = .tuple #[] ∧ H' = [sng bs' (.cells #[int (S + if crossB c f a t u then w else 0)] 3 (0, 0))]) := by
 unfold In64 at hS
 have gc : rdc (sng bc (.cells #[.slice p c.length kk] 34 (0, 0))) bc 0 = some (.slice p c.length kk) := by rw [rdc_sng]; rfl
 obtain ⟨b1, o1, q1, k1, rfl, g1, s1, l1⟩ := hc f _ (List.getElem?_eq_getElem hf)
 obtain ⟨_, _, q2, k2, e, g2, s2, l2⟩ := hc t _ (List.getElem?_eq_getElem ht)
 simp only [Option.some.injEq, Addr.mk.injEq, and_true] at e
 obtain ⟨rfl, rfl⟩ := e
 have h1 := ivHas_spec κ _ _ a s1 l1
 have h2 := ivHas_spec κ _ _ u s2 l2
 unfold crossB
 rw [cuAt_get (List.getElem?_eq_getElem hf), cuAt_get (List.getElem?_eq_getElem ht)]
 refine spec_in (cap := [.pointer (some ⟨bc, 0, none⟩), .pointer (some ⟨bs', 0, none⟩)]) Tryz.func29 rfl rfl Tryz.ntmps29 rfl envZ (fun N β => ?_)
 refine AC ?_
 refine AA ?_
 refine AG ?_
 refine AB ?_
 refine BS ?_
 refine AG ?_
 refine AB ?_
 refine AT h1 rfl rfl rdZ rfl rfl ?_
 rintro _ rfl
 cases hasI c[f] a with
 | false =>
  rw [Bool.false_and, if_neg (by simp), Int.add_zero]
  refine AB ?_
  refine AE rfl rfl rfl ?_
  refine AE rfl rfl rfl ?_
  refine AE rfl rfl rfl ?_
  refine AE rfl rfl rfl ?_
  refine AE rfl rfl rfl ?_
  refine AE rfl rfl rfl ?_
  refine AE rfl rfl rfl ?_
  refine AI ?_
  refine AF ?_
  refine AN rfl ?_
  refine AL ?_
  exact CR (res0 rfl) rsubZ selZ ⟨rfl, rfl⟩
 | true =>
  refine AB ?_
  refine AG ?_
  refine AB ?_
  refine BS ?_
  refine AG ?_
  refine AB ?_
  refine AT h2 rfl rfl rdZ rfl rfl ?_
  rintro _ rfl
  cases hasI c[t] u with
  | true =>
   rw [Bool.not_true, Bool.and_false, if_neg (by simp), Int.add_zero]
   refine BG ?_
   refine AK ?_
   refine AF ?_
   refine AN rfl ?_
   refine AL ?_
   exact CR (res0 rfl) rsubZ selZ ⟨rfl, rfl⟩
  | false =>
   rw [Bool.not_false, Bool.and_true, if_pos rfl]
   refine BG ?_
   refine AK ?_
   refine AF ?_
   refine AO rfl ?_
   refine AA ?_
   refine AG ?_
   refine AB ?_
   refine B8 ?_
   refine BB ?_; rintro _ _ ⟨rfl, rfl⟩
   refine AF ?_
   exact CR (res0 rfl) rsubZ selZ ⟨rfl, rfl⟩
end Go.Proofs.YtknfhiolenobaaaGreat
/- Arguments that are slices: their room. No conditions. -/
namespace Go.Eng
open Go.ChangeShapes Go.WideShapes Go.RowKit
variable {P : Program} {W : World} {t : TypeId}
theorem RdT.capOK {e : TypeId} {v : Value} (ht : P.underlying t = some (.slice e)) (h : RdT P W t [v]) : CapOK v := by
  obtain ⟨H, enc, fuel, x, h⟩ := h
  rcases Deep.open_slice ht h with ⟨e, _⟩ | ⟨a, len, cap, m, n, D, Pl, e, _, hlc, _⟩
  · simp only [List.cons.injEq, and_true] at e
    exact ⟨_, _, _, e, Nat.le_refl _⟩
  · simp only [List.cons.injEq, and_true] at e
    exact ⟨_, _, _, e, hlc⟩
end Go.Eng
/- The rows: each law, for every input. -/
namespace Go.Proofs.YtknfhiolenobaaaGreat
open Go.Eng Go.Step
set_option maxRecDepth 100000
set_option maxHeartbeats 4000000
open Go.ChangeShapes Go.WideShapes Go.ChangeAt Go.RowKit

theorem Tryz.own : ownKnob Tryz.prog.godebug = none := by kernel_rfl
theorem Tryz.laidOut : laidOutB Tryz.prog = true := by kernel_rfl
theorem ct_of {W : World} {x : List Value} (h : RdT Tryz.prog W 85 x) : ∃ a : Ct, x = encC a ∧ True := by
 obtain ⟨h1, _⟩ := h.struct Tryz.underlying85
 have hc : Tryz.prog.cellsOf 85 = 7 := by kernel_rfl
 rw [hc] at h1
 match x, h1 with
 | [c0, c1, c2, c3, c4, c5, c6], _ =>
  have k : Tryz.prog.cellsOf 3 = 1 := by kernel_rfl
  obtain ⟨x0, e0, _⟩ := (h.fld1 Tryz.underlying85 0 rfl rfl rfl k rfl).i64 Tryz.underlying3
  obtain ⟨x1, e1, _⟩ := (h.fld1 Tryz.underlying85 1 rfl rfl rfl k rfl).i64 Tryz.underlying3
  obtain ⟨x2, e2, _⟩ := (h.fld1 Tryz.underlying85 2 rfl rfl rfl k rfl).i64 Tryz.underlying3
  obtain ⟨x3, e3, _⟩ := (h.fld1 Tryz.underlying85 3 rfl rfl rfl k rfl).i64 Tryz.underlying3
  obtain ⟨x4, e4, _⟩ := (h.fld1 Tryz.underlying85 4 rfl rfl rfl k rfl).i64 Tryz.underlying3
  obtain ⟨x5, e5, _⟩ := (h.fld1 Tryz.underlying85 5 rfl rfl rfl k rfl).i64 Tryz.underlying3
  obtain ⟨x6, e6, _⟩ := (h.fld1 Tryz.underlying85 6 rfl rfl rfl k rfl).i64 Tryz.underlying3
  simp at e0 e1 e2 e3 e4 e5 e6
  subst e0 e1 e2 e3 e4 e5 e6
  exact ⟨⟨x0, x1, x2, x3, x4, x5, x6⟩, rfl, trivial⟩
theorem bk_of {W : World} {x : List Value} (h : RdT Tryz.prog W 171 x) : ∃ a : Bk, x = encB a ∧ True := by
 obtain ⟨h1, _⟩ := h.struct Tryz.underlying171
 have hc : Tryz.prog.cellsOf 171 = 4 := by kernel_rfl
 rw [hc] at h1
 match x, h1 with
 | [c0, c1, c2, c3], _ =>
  have k : Tryz.prog.cellsOf 3 = 1 := by kernel_rfl
  obtain ⟨x0, e0, _⟩ := (h.fld1 Tryz.underlying171 0 rfl rfl rfl k rfl).i64 Tryz.underlying3
  obtain ⟨x1, e1, _⟩ := (h.fld1 Tryz.underlying171 1 rfl rfl rfl k rfl).i64 Tryz.underlying3
  obtain ⟨x2, e2, _⟩ := (h.fld1 Tryz.underlying171 2 rfl rfl rfl k rfl).i64 Tryz.underlying3
  obtain ⟨x3, e3, _⟩ := (h.fld1 Tryz.underlying171 3 rfl rfl rfl k rfl).i64 Tryz.underlying3
  simp at e0 e1 e2 e3
  subst e0 e1 e2 e3
  exact ⟨⟨x0, x1, x2, x3⟩, rfl, trivial⟩
theorem hd_of {W : World} {x : List Value} (h : RdT Tryz.prog W 133 x) : ∃ a : Hd, x = encH a ∧ True := by
 obtain ⟨h1, _⟩ := h.struct Tryz.underlying133
 have hc : Tryz.prog.cellsOf 133 = 5 := by kernel_rfl
 rw [hc] at h1
 match x, h1 with
 | [c0, c1, c2, c3, c4], _ =>
  have k : Tryz.prog.cellsOf 3 = 1 := by kernel_rfl
  obtain ⟨x0, e0, _⟩ := (h.fld1 Tryz.underlying133 0 rfl rfl rfl k rfl).i64 Tryz.underlying3
  obtain ⟨x1, e1, _⟩ := (h.fld1 Tryz.underlying133 1 rfl rfl rfl k rfl).i64 Tryz.underlying3
  obtain ⟨x2, e2, _⟩ := (h.fld1 Tryz.underlying133 2 rfl rfl rfl k rfl).i64 Tryz.underlying3
  obtain ⟨x3, e3, _⟩ := (h.fld1 Tryz.underlying133 3 rfl rfl rfl k rfl).i64 Tryz.underlying3
  obtain ⟨x4, e4, _⟩ := (h.fld1 Tryz.underlying133 4 rfl rfl rfl k rfl).i64 Tryz.underlying3
  simp at e0 e1 e2 e3 e4
  subst e0 e1 e2 e3 e4
  exact ⟨⟨x0, x1, x2, x3, x4⟩, rfl, trivial⟩
theorem sh_of {W : World} {x : List Value} (h : RdT Tryz.prog W 68 x) : ∃ a : Sh, x = encX a ∧ True := by
 obtain ⟨h1, _⟩ := h.struct Tryz.underlying68
 have hc : Tryz.prog.cellsOf 68 = 3 := by kernel_rfl
 rw [hc] at h1
 match x, h1 with
 | [c0, c1, c2], _ =>
  have k : Tryz.prog.cellsOf 3 = 1 := by kernel_rfl
  obtain ⟨x0, e0, _⟩ := (h.fld1 Tryz.underlying68 0 rfl rfl rfl k rfl).i64 Tryz.underlying3
  obtain ⟨x1, e1, _⟩ := (h.fld1 Tryz.underlying68 1 rfl rfl rfl k rfl).i64 Tryz.underlying3
  obtain ⟨x2, e2, _⟩ := (h.fld1 Tryz.underlying68 2 rfl rfl rfl k rfl).i64 Tryz.underlying3
  simp at e0 e1 e2
  subst e0 e1 e2
  exact ⟨⟨x0, x1, x2⟩, rfl, trivial⟩
theorem sp_of {W : World} {x : List Value} (h : RdT Tryz.prog W 70 x) : ∃ a : (Int × Int), x = encS a ∧ True := by
 obtain ⟨h1, _⟩ := h.struct Tryz.underlying70
 have hc : Tryz.prog.cellsOf 70 = 2 := by kernel_rfl
 rw [hc] at h1
 match x, h1 with
 | [c0, c1], _ =>
  have k : Tryz.prog.cellsOf 3 = 1 := by kernel_rfl
  obtain ⟨x0, e0, _⟩ := (h.fld1 Tryz.underlying70 0 rfl rfl rfl k rfl).i64 Tryz.underlying3
  obtain ⟨x1, e1, _⟩ := (h.fld1 Tryz.underlying70 1 rfl rfl rfl k rfl).i64 Tryz.underlying3
  simp at e0 e1
  subst e0 e1
  exact ⟨⟨x0, x1⟩, rfl, trivial⟩
theorem ships_of {W : World} {r : Reach} {base : Nat} {v0 : Value} (hv : Value.okWide Tryz.prog W r base 32 v0) (h : RdT Tryz.prog W 32 v0.cells.toList) : ∃ l : List Sh, ShAt (heapPH W) v0 l ∧ CapOK v0 ∧ l.length ≤ 9223372036854775807 := by
 obtain ⟨a, len, cap, rfl⟩ := okWide_slice Tryz.underlying32 hv
 have h' : RdT Tryz.prog W 32 [Value.slice a len cap] := h
 obtain ⟨v, e, l, h1, h2, h3⟩ := h'.sliceE Tryz.underlying32 (s := 3) (by kernel_rfl) (by omega) (fun x hx => sh_of hx)
 simp only [List.cons.injEq, and_true] at e
 subst e
 exact ⟨l, h1, h'.capOK Tryz.underlying32, by simp only [maxLen] at h3; omega⟩
theorem demand_of {W : World} {r : Reach} {base : Nat} {v0 : Value} (hv : Value.okWide Tryz.prog W r base 31 v0) (h : RdT Tryz.prog W 31 v0.cells.toList) : ∃ a : Dm, v0 = .agg [int a.s, int a.d, int a.v, int a.r, int a.e].toArray ∧ In64 a.s ∧ In64 a.d ∧ In64 a.v ∧ In64 a.r ∧ In64 a.e := by
 obtain ⟨cs, rfl⟩ := okWide_agg Tryz.underlying31 hv
 obtain ⟨h1, _⟩ := h.struct Tryz.underlying31
 have hc : Tryz.prog.cellsOf 31 = 5 := by kernel_rfl
 rw [hc] at h1
 obtain ⟨x⟩ := cs
 match x, h1 with
 | [c0, c1, c2, c3, c4], _ =>
  have k : Tryz.prog.cellsOf 3 = 1 := by kernel_rfl
  obtain ⟨x0, e0, i0⟩ := (h.fld1 Tryz.underlying31 0 rfl rfl rfl k rfl).i64 Tryz.underlying3
  obtain ⟨x1, e1, i1⟩ := (h.fld1 Tryz.underlying31 1 rfl rfl rfl k rfl).i64 Tryz.underlying3
  obtain ⟨x2, e2, i2⟩ := (h.fld1 Tryz.underlying31 2 rfl rfl rfl k rfl).i64 Tryz.underlying3
  obtain ⟨x3, e3, i3⟩ := (h.fld1 Tryz.underlying31 3 rfl rfl rfl k rfl).i64 Tryz.underlying3
  obtain ⟨x4, e4, i4⟩ := (h.fld1 Tryz.underlying31 4 rfl rfl rfl k rfl).i64 Tryz.underlying3
  simp at e0 e1 e2 e3 e4
  subst e0 e1 e2 e3 e4
  exact ⟨⟨x0, x1, x2, x3, x4⟩, rfl, i0, i1, i2, i3, i4⟩
theorem int_of {W : World} {x : List Value} (h : RdT Tryz.prog W 3 x) : ∃ a : Int, x = Eng.encI a ∧ True := by
 obtain ⟨a, e, _⟩ := h.i64 Tryz.underlying3
 exact ⟨a, e, trivial⟩
theorem tables_of {W : World} {r : Reach} {base : Nat} {v0 : Value} (hv : Value.okWide Tryz.prog W r base 29 v0) (h : RdT Tryz.prog W 29 v0.cells.toList) :
  ∃ (pq pc pb ph : Option Addr) (kq kc kb kh : Nat) (qs : List Int) (cs : List Ct) (bs : List Bk) (hs : List Hd), v0 = .agg #[.slice pq qs.length kq, .slice pc cs.length kc, .slice pb bs.length kb, .slice ph hs.length kh] ∧ TbAt (heapPH W) (heapPH W) (heapPH W) (heapPH W) pq pc pb ph kq kc kb kh qs cs bs hs := by
 obtain ⟨cs, rfl⟩ := okWide_agg Tryz.underlying29 hv
 obtain ⟨h1, hf⟩ := h.struct Tryz.underlying29
 have hc : Tryz.prog.cellsOf 29 = 4 := by kernel_rfl
 rw [hc] at h1
 obtain ⟨x⟩ := cs
 match x, h1 with
 | [c0, c1, c2, c3], _ =>
  have k0 : Tryz.prog.cellsOf 22 = 1 := by kernel_rfl
  have k1 : Tryz.prog.cellsOf 23 = 1 := by kernel_rfl
  have k2 : Tryz.prog.cellsOf 26 = 1 := by kernel_rfl
  have k3 : Tryz.prog.cellsOf 27 = 1 := by kernel_rfl
  have kp : Tryz.prog.cellsOf 25 = 2 := by kernel_rfl
  have hp : RdT Tryz.prog W 25 [c0, c1] := by
   have : RdT Tryz.prog W 25 ((([c0, c1, c2, c3] : List Value).drop 0).take (Tryz.prog.cellsOf 25)) := hf 0 _ rfl
   rw [show (Tryz.prog.cellsOf 25) = 2 from kp] at this
   exact this
  have f0 := hp.fld1 Tryz.underlying25 0 rfl rfl rfl k0 rfl
  have f1 := hp.fld1 Tryz.underlying25 1 rfl rfl rfl k1 rfl
  have f2 := h.fld1 Tryz.underlying29 1 rfl rfl rfl k2 rfl
  have f3 := h.fld1 Tryz.underlying29 2 rfl rfl rfl k3 rfl
  obtain ⟨v, e, qs, a1, a2, a3⟩ := f0.sliceE Tryz.underlying22 (s := 1) (by kernel_rfl) (by omega) (fun x hx => int_of hx)
  simp only [List.cons.injEq, and_true] at e
  obtain ⟨u, e', ct, b1, b2, b3⟩ := f1.sliceE Tryz.underlying23 (s := 7) (by kernel_rfl) (by omega) (fun x hx => ct_of hx)
  simp only [List.cons.injEq, and_true] at e'
  obtain ⟨u2, e2, bk, d1, d2, d3⟩ := f2.sliceE Tryz.underlying26 (s := 4) (by kernel_rfl) (by omega) (fun x hx => bk_of hx)
  simp only [List.cons.injEq, and_true] at e2
  obtain ⟨u3, e3, hd, g1, g2, g3⟩ := f3.sliceE Tryz.underlying27 (s := 5) (by kernel_rfl) (by omega) (fun x hx => hd_of hx)
  simp only [List.cons.injEq, and_true] at e3
  have cap2 := f1.capOK Tryz.underlying23
  subst e e' e2 e3
  obtain ⟨pq, kq, rfl, _⟩ := a1.val Eng.encI_len
  obtain ⟨pc, kc, rfl, _⟩ := b1.val encC_len
  obtain ⟨pb, kb, rfl, _⟩ := d1.val encB_len
  obtain ⟨ph, kh, rfl, _⟩ := g1.val encH_len
  simp only [maxLen] at a3 b3 d3 g3
  exact ⟨pq, pc, pb, ph, kq, kc, kb, kh, qs, ct, bk, hd, rfl, a1, b1, cap2.le, by omega, by omega, d1, by omega, g1, by omega⟩
theorem cut_of {W : World} {x : Value} (h : RdT Tryz.prog W 34 [x]) : ∃ (p : Option Addr) (k : Nat) (c : Cu), x = .slice p c.length k ∧ CutRow (heapPH W) (heapPH W) p c ∧ c.length ≤ 9223372036854775807 := by
 obtain ⟨v, p, k, e, els, rfl, hle, hx⟩ := h.slice Tryz.underlying34 (s := 1) (by kernel_rfl) (by omega)
 simp only [List.cons.injEq, and_true] at e
 subst e
 obtain ⟨c, hl, hq⟩ := choose_list (fun i (l : List (Int × Int)) => ∃ v, els[i]? = some [v] ∧ SpAt (heapPH W) v l ∧ l.length ≤ 9223372036854775807) els.length (fun i hi => by
  obtain ⟨_, h2, _⟩ := hx i _ (List.getElem?_eq_getElem hi)
  obtain ⟨v, e, l, h3, _, h4⟩ := h2.sliceE Tryz.underlying64 (s := 2) (by kernel_rfl) (by omega) (fun x hx => sp_of hx)
  exact ⟨l, v, by rw [List.getElem?_eq_getElem hi, e], h3, by simp only [maxLen] at h4; omega⟩)
 simp only [maxLen] at hle
 refine ⟨p, k, c, by rw [hl], fun i l hil => ?_, by omega⟩
 obtain ⟨v, e, h3, h4⟩ := hq i l hil
 obtain ⟨_, _, b, o, rfl, hr⟩ := hx i _ e
 obtain ⟨q, kk, rfl, _⟩ := h3.val encS_len
 refine ⟨b, o, q, kk, rfl, ?_, h3, h4⟩
 have := hr 0 _ rfl
 rwa [Nat.mul_one, Nat.add_zero] at this
theorem cutV_of {W : World} {r : Reach} {base : Nat} {v0 : Value} (hv : Value.okWide Tryz.prog W r base 34 v0) (h : RdT Tryz.prog W 34 v0.cells.toList) : ∃ (p : Option Addr) (k : Nat) (c : Cu), v0 = .slice p c.length k ∧ CutRow (heapPH W) (heapPH W) p c ∧ c.length ≤ 9223372036854775807 := by
 obtain ⟨a, len, cap, rfl⟩ := okWide_slice Tryz.underlying34 hv
 exact cut_of h
theorem answer_of {W : World} {r : Reach} {base : Nat} {v0 : Value} (hv : Value.okWide Tryz.prog W r base 36 v0) (h : RdT Tryz.prog W 36 v0.cells.toList) :
  ∃ (acc : Bool) (vol : Int) (q : Option Addr) (kl : Nat) (l : List Sh) (p : Option Addr) (kk : Nat) (c : Cu), v0 = .agg #[.bool acc, int vol, .slice q l.length kl, .slice p c.length kk] ∧ ShAt (heapPH W) (.slice q l.length kl) l ∧ l.length ≤ 9223372036854775807 ∧ CutRow (heapPH W) (heapPH W) p c ∧ c.length ≤ 9223372036854775807 := by
 obtain ⟨cs, rfl⟩ := okWide_agg Tryz.underlying36 hv
 obtain ⟨h1, _⟩ := h.struct Tryz.underlying36
 have hc : Tryz.prog.cellsOf 36 = 4 := by kernel_rfl
 rw [hc] at h1
 obtain ⟨x⟩ := cs
 match x, h1 with
 | [c0, c1, c2, c3], _ =>
  have k0 : Tryz.prog.cellsOf 4 = 1 := by kernel_rfl
  have k1 : Tryz.prog.cellsOf 3 = 1 := by kernel_rfl
  have k2 : Tryz.prog.cellsOf 32 = 1 := by kernel_rfl
  have k3 : Tryz.prog.cellsOf 34 = 1 := by kernel_rfl
  obtain ⟨acc, e0⟩ := (h.fld1 Tryz.underlying36 0 rfl rfl rfl k0 rfl).bool Tryz.underlying4
  obtain ⟨vol, e1, _⟩ := (h.fld1 Tryz.underlying36 1 rfl rfl rfl k1 rfl).i64 Tryz.underlying3
  obtain ⟨v, e2, l, a1, a2, a3⟩ := (h.fld1 Tryz.underlying36 2 rfl rfl rfl k2 rfl).sliceE Tryz.underlying32 (s := 3) (by kernel_rfl) (by omega) (fun x hx => sh_of hx)
  obtain ⟨p, kk, c, e3, g1, g2⟩ := cut_of (h.fld1 Tryz.underlying36 3 rfl rfl rfl k3 rfl)
  obtain ⟨q, kl, rfl, _⟩ := a1.val encX_len
  simp only [List.cons.injEq, and_true] at e0 e1 e2
  subst e0 e1 e2 e3
  simp only [maxLen] at a3
  exact ⟨acc, vol, q, kl, l, p, kk, c, rfl, a1, by omega, g1, g2⟩
end Go.Proofs.YtknfhiolenobaaaGreat
/- Shipments and stocks, of the reference. -/
namespace Go.Proofs.YtknfhiolenobaaaGreat
open Go.Eng Go.Step
set_option maxRecDepth 100000
set_option maxHeartbeats 4000000

theorem ship1_ok {cs : List Ct} {bs : List Bk} {d : Dm} {x : Sh} (h : ship1 cs bs d x = 0) : ∃ (nn : Nat) (c : Ct), x.c = nn ∧ cs[nn]? = some c ∧ ctOf cs x = c ∧ (d.r ≤ x.t ∧ c.s ≤ x.t ∧ x.t < c.e ∧ 1 ≤ x.n ∧ x.n ≤ c.r) ∧ x.t + 1 + c.g ≤ d.e ∧ arrOf cs x = x.t + 1 + c.g := by
 unfold ship1 at h
 by_cases h1 : x.c < 0 ∨ (cs.length : Int) ≤ x.c
 ·rw [if_pos h1] at h; omega
 rw [if_neg h1] at h
 have hlt : x.c.toNat < cs.length := by omega
 rw [List.getElem?_eq_getElem hlt] at h
 dsimp only at h
 have hct : ctOf cs x = cs[x.c.toNat] := by unfold ctOf; rw [List.getD_eq_getElem?_getD, List.getElem?_eq_getElem hlt]; rfl
 by_cases h2 : x.t < d.r ∨ x.t < cs[x.c.toNat].s ∨ cs[x.c.toNat].e ≤ x.t ∨ x.n < 1 ∨ cs[x.c.toNat].r < x.n
 ·rw [if_pos h2] at h; omega
 rw [if_neg h2] at h
 by_cases h3 : d.e < x.t + 1 + cs[x.c.toNat].g
 ·rw [if_pos h3] at h; omega
 exact ⟨x.c.toNat, cs[x.c.toNat], by omega, List.getElem?_eq_getElem hlt, hct, by omega, by omega, by unfold arrOf; rw [hct]⟩
theorem shipE_bad {cs : List Ct} {bs : List Bk} {d : Dm} {l : List Sh} {i : Nat} {x : Sh} {e : Int} (h : l[i]? = some x) (h1 : ship1 cs bs d x = e) (h0 : e ≠ 0) : shipE cs bs d l i = e := by rw [shipE_at h, h1, if_pos h0]
theorem shipE_good {cs : List Ct} {bs : List Bk} {d : Dm} {l : List Sh} {i : Nat} {x : Sh} (h : l[i]? = some x) (h1 : ship1 cs bs d x = 0) : shipE cs bs d l i = if (l.take i).any (sameSl x) then 14 else 0 := by rw [shipE_at h, h1, if_neg (by simp)]
end Go.Proofs.YtknfhiolenobaaaGreat
/- Stocks, of the reference. -/
namespace Go.Proofs.YtknfhiolenobaaaGreat
open Go.Eng Go.Step
set_option maxRecDepth 100000
set_option maxHeartbeats 4000000

end Go.Proofs.YtknfhiolenobaaaGreat
/- Flow, of the reference. -/
namespace Go.Proofs.YtknfhiolenobaaaGreat
open Go.Eng Go.Step
set_option maxRecDepth 100000
set_option maxHeartbeats 4000000

theorem valid_ok {qs : List Int} {cs : List Ct} {bs : List Bk} {hs : List Hd} {d : Dm} (h : validT qs cs bs hs d = true) : (∀ c ∈ cs, chkCt c = 0 ∧ c.f < qs.length ∧ c.t < qs.length) ∧ bs.length ≤ 512 ∧ (∀ x ∈ hs, okHd qs.length x) ∧ hs.length ≤ 512 ∧ (1 ≤ qs.length ∧ qs.length ≤ 16) ∧ (∀ (j : Nat) (q : Int), qs[j]? = some q → 0 ≤ q ∧ q ≤ 1073741824) ∧ okDm qs.length d ∧ cs.length ≤ 64 := by
 obtain ⟨h1, h2⟩ := of_decide_eq_true h
 obtain ⟨p, b, hh⟩ := chkT_ok h1
 obtain ⟨k1, k2⟩ := chkPl_ct p
 obtain ⟨k3, k4⟩ := chkPl_quo p
 have k5 := chkB_ok b
 have k6 : (∀ x ∈ hs, okHd qs.length x) ∧ hs.length ≤ 512 := by
  unfold chkH at hh
  rw [if_neg (by simpa using p)] at hh
  by_cases c1 : 512 < hs.length
  ·rw [if_pos c1] at hh; omega
  rw [if_neg c1] at hh
  by_cases c2 : firstE (hdE qs.length hs) hs.length = 0
  ·have := hdE_ok c2
   rw [List.take_length] at this
   exact ⟨this, by omega⟩
  ·rw [if_pos c2] at hh; exact absurd hh c2
 exact ⟨k2, k5.1, k6.1, k6.2, k3, k4, h2, k1⟩
theorem ships_ok {cs : List Ct} {bs : List Bk} {d : Dm} {l : List Sh} (h : firstE (shipE cs bs d l) l.length = 0) : ∀ x ∈ l, ship1 cs bs d x = 0 := fun x hx => by
 obtain ⟨i, hi, rfl⟩ := List.getElem_of_mem hx
 have h2 := firstE_zero h i hi
 rw [shipE_at (List.getElem?_eq_getElem hi)] at h2
 by_cases c : ship1 cs bs d l[i] = 0
 ·exact c
 ·rw [if_pos c] at h2; exact h2
end Go.Proofs.YtknfhiolenobaaaGreat
/- A set of integers lies between its first and its last. No program in sight. No conditions. -/
namespace Go.Step
theorem chkI_at {l : List (Int × Int)} (h : chkI l = 0) {i : Nat} (hi : i < l.length) : l[i].1 < l[i].2 ∧ (∀ h0 : 0 < i, l[i - 1].2 < l[i].1) := by
  unfold chkI at h
  split at h
  · simp at h
  have h2 := firstE_zero h i hi
  rw [spE_at (List.getElem?_eq_getElem hi)] at h2
  split at h2
  · simp at h2
  rename_i h3
  split at h2
  · simp at h2
  rename_i h4
  have h5 : okSp l[i] := Decidable.not_not.1 h3
  refine ⟨h5.1, fun h0 => ?_⟩
  rw [List.getD_eq_getElem?_getD, List.getElem?_eq_getElem (by omega), Option.getD_some] at h4
  omega
theorem chkI_lo {l : List (Int × Int)} (h : chkI l = 0) : ∀ {i : Nat} (hi : i < l.length), l[0].1 ≤ l[i].1
  | 0, hi => Int.le_refl _
  | i + 1, hi => by
    have h1 := chkI_lo h (i := i) (by omega)
    have h2 := (chkI_at h (i := i) (by omega)).1
    have h3 := (chkI_at h hi).2 (by omega)
    simp only [Nat.add_sub_cancel] at h3
    omega
theorem chkI_hi {l : List (Int × Int)} (h : chkI l = 0) : ∀ (k : Nat) {i : Nat} (hi : i + k < l.length), l[i].2 ≤ l[i + k].2
  | 0, i, hi => Int.le_refl _
  | k + 1, i, hi => by
    have h1 := chkI_hi h k (i := i) (by omega)
    have h2 := (chkI_at h (i := i + (k + 1)) hi).1
    have h3 := (chkI_at h hi).2 (by omega)
    have e : i + (k + 1) - 1 = i + k := by omega
    simp only [e] at h3
    omega
theorem badS_ends {l : List (Int × Int)} (h : chkI l = 0) (hp : 0 < l.length) (d : Dm) : l.any (badS d) = (decide (l[0].1 < d.r) || decide (d.e + 1 < l[l.length - 1].2)) := by
  rw [Bool.eq_iff_iff, List.any_eq_true, Bool.or_eq_true, decide_eq_true_eq, decide_eq_true_eq]
  constructor
  · rintro ⟨x, hx, hb⟩
    obtain ⟨i, hi, rfl⟩ := List.getElem_of_mem hx
    unfold badS at hb
    rw [Bool.or_eq_true, decide_eq_true_eq, decide_eq_true_eq] at hb
    have h1 := chkI_lo h hi
    have h2 := chkI_hi h (l.length - 1 - i) (i := i) (by omega)
    have e : i + (l.length - 1 - i) = l.length - 1 := by omega
    simp only [e] at h2
    omega
  · rintro (h1 | h1)
    · exact ⟨_, List.getElem_mem hp, by unfold badS; rw [decide_eq_true h1]; rfl⟩
    · exact ⟨_, List.getElem_mem (show l.length - 1 < l.length by omega), by unfold badS; rw [decide_eq_true h1, Bool.or_true]⟩
end Go.Step
/- Union and intersection of sets of integers. No program in sight. No conditions. -/
namespace Go.Step
abbrev Iv := List (Int × Int)
def NormI (l : Iv) : Prop := (∀ x ∈ l, x.1 < x.2) ∧ l.Pairwise (fun x y => x.2 < y.1)
def memI (l : Iv) (t : Int) : Bool := l.any (inSp t)
theorem inSp_iff {t : Int} {x : Int × Int} : inSp t x = true ↔ x.1 ≤ t ∧ t < x.2 := by simp [inSp]
theorem memI_iff {l : Iv} {t : Int} : memI l t = true ↔ ∃ x ∈ l, x.1 ≤ t ∧ t < x.2 := by simp [memI, inSp]
theorem memI_cons (x : Int × Int) (l : Iv) (t : Int) : memI (x :: l) t = (inSp t x || memI l t) := rfl
theorem NormI.nil : NormI [] := ⟨by simp, .nil⟩
theorem NormI.tail {x : Int × Int} {l : Iv} (h : NormI (x :: l)) : NormI l := ⟨fun y hy => h.1 y (by simp [hy]), (List.pairwise_cons.1 h.2).2⟩
theorem NormI.hd {x : Int × Int} {l : Iv} (h : NormI (x :: l)) : x.1 < x.2 ∧ ∀ y ∈ l, x.2 < y.1 := ⟨h.1 x (by simp), (List.pairwise_cons.1 h.2).1⟩
theorem NormI.cons {x : Int × Int} {l : Iv} (h : NormI l) (h1 : x.1 < x.2) (h2 : ∀ y ∈ l, x.2 < y.1) : NormI (x :: l) :=
  ⟨fun y hy => by
    rcases List.mem_cons.1 hy with rfl | hy
    · exact h1
    · exact h.1 y hy, List.pairwise_cons.2 ⟨h2, h.2⟩⟩
theorem memI_lo2 {x : Int × Int} {l : Iv} {t : Int} (h : NormI (x :: l)) (hm : memI l t = true) : x.2 < t := by
  obtain ⟨y, hy, h1, h2⟩ := memI_iff.1 hm
  have b := h.hd.2 y hy
  omega
/-! sets that are checked -/
/-! one more span -/
def absI : Iv → Int × Int → Iv
  | [], x => [x]
  | y :: l, x => if y.1 ≤ x.2 then absI l (min x.1 y.1, max x.2 y.2) else x :: y :: l
def insI : Iv → Int × Int → Iv
  | [], x => [x]
  | y :: l, x => if y.2 < x.1 then y :: insI l x else absI (y :: l) x
def insAll (a : Iv) (b : Iv) : Iv := b.foldl insI a
/-! intersection, span by span -/
/-! ends of spans -/
def parT : List Int → Int → Bool
  | [], _ => false
  | e :: E, t => if e ≤ t then !(parT E t) else parT E t
def oddB (n : Nat) : Bool := decide (n % 2 = 1)
theorem oddB_succ (n : Nat) : oddB (n + 1) = !(oddB n) := by
  unfold oddB
  by_cases h : n % 2 = 1
  · rw [decide_eq_true h, decide_eq_false (by omega)]; rfl
  · rw [decide_eq_false h, decide_eq_true (by omega)]; rfl
theorem parT_snoc (t x : Int) : ∀ O : List Int, parT (O ++ [t]) x = if t ≤ x then !(parT O x) else parT O x
  | [] => by simp [parT]
  | o :: O => by
    have ih := parT_snoc t x O
    show (if o ≤ x then !(parT (O ++ [t]) x) else parT (O ++ [t]) x) = if t ≤ x then !(if o ≤ x then !(parT O x) else parT O x) else (if o ≤ x then !(parT O x) else parT O x)
    rw [ih]
    split <;> split <;> rfl
theorem parT_all {x : Int} : ∀ {O : List Int}, (∀ o ∈ O, o ≤ x) → parT O x = oddB O.length
  | [], _ => rfl
  | o :: O, h => by
    show (if o ≤ x then !(parT O x) else parT O x) = oddB (O.length + 1)
    rw [if_pos (h o (by simp)), parT_all (fun p hp => h p (by simp [hp])), oddB_succ]
theorem parT_none {x : Int} : ∀ {O : List Int}, (∀ o ∈ O, x < o) → parT O x = false
  | [], _ => rfl
  | o :: O, h => by
    show (if o ≤ x then !(parT O x) else parT O x) = false
    have := h o (by simp)
    rw [if_neg (by omega), parT_none (fun p hp => h p (by simp [hp]))]
def mcomb1 (f : Bool → Bool → Bool) (O : List Int) (e : Int × Bool × Bool) : List Int := if f e.2.1 e.2.2 = oddB O.length then O else O ++ [e.1]
structure Cm (f : Bool → Bool → Bool) (A : List Int) (p : Bool) (B : List Int) (q : Bool) (O O' : List Int) : Prop where
  asc : O'.Pairwise (· < ·)
  hi : ∀ x, (∀ o ∈ O, o ≤ x) → parT O' x = f (p ^^ parT A x) (q ^^ parT B x)
  lo : ∀ x, (∀ a ∈ A, x < a) → (∀ b ∈ B, x < b) → parT O' x = parT O x
  len : O'.length ≤ O.length + A.length + B.length
theorem Cm.step {f : Bool → Bool → Bool} {A A1 : List Int} {p p1 : Bool} {B B1 : List Int} {q q1 : Bool} {O O' : List Int} {t : Int}
    (h : Cm f A1 p1 B1 q1 (mcomb1 f O (t, p1, q1)) O') (ho : oddB O.length = f p q) (hA : ∀ a ∈ A, t ≤ a) (hB : ∀ b ∈ B, t ≤ b) (hOt : ∀ o ∈ O, o < t)
    (eA : ∀ x, t ≤ x → (p1 ^^ parT A1 x) = (p ^^ parT A x)) (eB : ∀ x, t ≤ x → (q1 ^^ parT B1 x) = (q ^^ parT B x)) (sA : ∀ a ∈ A1, t < a) (sB : ∀ b ∈ B1, t < b) (hl : A1.length + B1.length + 1 ≤ A.length + B.length) (hin : t ∈ A ∨ t ∈ B) : Cm f A p B q O O' := by
  have hmem : ∀ o ∈ mcomb1 f O (t, p1, q1), o ≤ t := fun o ho => by
    unfold mcomb1 at ho
    split at ho
    · have := hOt o ho; omega
    · rcases List.mem_append.1 ho with h | h
      · have := hOt o h; omega
      · have := List.mem_singleton.1 h; omega
  have hpre : ∀ x, x < t → parT (mcomb1 f O (t, p1, q1)) x = parT O x := fun x hx => by
    unfold mcomb1
    split
    · rfl
    · rw [parT_snoc, if_neg (by dsimp only; omega)]
  have hcl : (mcomb1 f O (t, p1, q1)).length ≤ O.length + 1 := by
    unfold mcomb1
    split
    · omega
    · simp
  refine ⟨h.asc, fun x hx => ?_, fun x hx hy => ?_, by have := h.len; omega⟩
  · by_cases ht : t ≤ x
    · rw [h.hi x (fun o ho => Int.le_trans (hmem o ho) ht), eA x ht, eB x ht]
    · rw [h.lo x (fun a ha => by have := sA a ha; omega) (fun b hb => by have := sB b hb; omega), hpre x (by omega), parT_all hx, parT_none (fun a ha => by have := hA a ha; omega), parT_none (fun b hb => by have := hB b hb; omega), Bool.xor_false, Bool.xor_false, ho]
  · have ht : x < t := by
      rcases hin with h | h
      · exact hx t h
      · exact hy t h
    rw [h.lo x (fun a ha => by have := sA a ha; omega) (fun b hb => by have := sB b hb; omega), hpre x ht]
end Go.Step
/- The ends of two sets, one after the other. No program in sight. No conditions. -/
namespace Go.Step
end Go.Step
