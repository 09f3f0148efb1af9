/- Texts of this proof, one after the other; no conditions. -/
import Derived.Test.YtknfhiolenobaaaGreatWB6
import Derived.Test.YtknfhiolenobaaaGreatWB3
import Derived.Test.YtknfhiolenobaaaGreatWB9
import Derived.Test.YtknfhiolenobaaaGreatWB4
import Derived.Test.YtknfhiolenobaaaGreatWB2
import Derived.Test.YtknfhiolenobaaaGreatWB12
import Derived.Test.YtknfhiolenobaaaGreatWB7
import Derived.Test.YtknfhiolenobaaaGreatWB11
set_option linter.all false
/- Sizes that the statements examine. -/
namespace Go.Proofs.YtknfhiolenobaaaGreat
open Go.Eng Go.Step
set_option maxRecDepth 100000
set_option maxHeartbeats 4000000

theorem greatPlanp_spec (pq pc : Option Addr) (kq kc nq nc : Nat) : Ans Tryz.prog (fv 47) [.agg #[.slice pq nq kq, .slice pc nc kc]] [] (fun r => r = .bool (decide (6 < nq ∨ 10 < nc))) := by
 refine spec_in (cap := []) Tryz.func47 rfl rfl Tryz.ntmps47 rfl envZ (fun N β => ?_)
 refine AC ?_
 refine AA ?_
 refine BS (BV rfl) rfl rfl rfl ?_
 rintro _ _ ⟨b1, rfl, rfl⟩
 refine AT (ρ := sng b1 _) takeZ ?_
 have c : RdN (sng b1 (.cells #[.slice pq nq kq, .slice pc nc kc] 25 (0, 0))) b1 0 [.slice pq nq kq, .slice pc nc kc] := rdN_sng (vs := [.slice pq nq kq, .slice pc nc kc])
 have c0 : rdc (sng b1 (.cells #[.slice pq nq kq, .slice pc nc kc] 25 (0, 0))) b1 0 = some (.slice pq nq kq) := by rw [rdc_sng]; rfl
 have c1 : rdc (sng b1 (.cells #[.slice pq nq kq, .slice pc nc kc] 25 (0, 0))) b1 1 = some (.slice pc nc kc) := by rw [rdc_sng]; rfl
 by_cases h1 : 6 < nq
 ·rw [decide_eq_true (.inl h1)]
  refine AD ?_
  refine AE ?_
  refine AC ?_
  refine AA ?_
  refine AH ?_
  refine AG ?_
  refine A3 ?_
  refine CI ?_
  refine AB ?_
  refine AF rfl rfl rfl ?_
  refine AF rfl rfl rfl ?_
  refine AF rfl rfl rfl ?_
  refine AF rfl rfl rfl ?_
  refine AK ?_
  refine AD ?_
  refine AE ?_
  exact AI (res1 rfl rfl) rsubZ selZ ⟨rfl, rfl⟩
 by_cases h2 : 10 < nc
 ·rw [decide_eq_true (.inr h2)]
  refine AD ?_
  refine AE ?_
  refine AC ?_
  refine AA ?_
  refine AH ?_
  refine AG ?_
  refine A3 ?_
  refine BR ?_
  refine AB ?_
  refine AH ?_
  refine AG ?_
  refine A3 ?_
  refine CI ?_
  refine AJ ?_
  refine AD ?_
  refine AE ?_
  exact AI (res1 rfl rfl) rsubZ selZ ⟨rfl, rfl⟩
 rw [decide_eq_false (by omega)]
 refine AD ?_
 refine AE ?_
 refine AC ?_
 refine AA ?_
 refine AH ?_
 refine AG ?_
 refine A3 ?_
 refine BR ?_
 refine AB ?_
 refine AH ?_
 refine AG ?_
 refine A3 ?_
 refine BR ?_
 refine AJ ?_
 refine AD ?_
 refine AE ?_
 exact AI (res1 rfl rfl) rsubZ selZ ⟨rfl, rfl⟩
set_option maxHeartbeats 16000000 in
theorem great29p_spec (pq pc pb ph : Option Addr) (kq kc kb kh nq nc nb nh : Nat) : Ans Tryz.prog (fv 19) [.agg #[.slice pq nq kq, .slice pc nc kc, .slice pb nb kb, .slice ph nh kh]] [] (fun r => r = .bool (decide (6 < nq ∨ 10 < nc ∨ 30 < nb ∨ 30 < nh))) := by
 refine spec_in (cap := []) Tryz.func19 rfl rfl Tryz.ntmps19 rfl envZ (fun N β => ?_)
 refine AC ?_
 refine AA ?_
 refine BS (BV rfl) rfl rfl rfl ?_
 rintro _ _ ⟨b1, rfl, rfl⟩
 refine AT (ρ := sng b1 _) takeZ ?_
 have c : RdN (sng b1 (.cells #[.slice pq nq kq, .slice pc nc kc, .slice pb nb kb, .slice ph nh kh] 29 (0, 0))) b1 0 [.slice pq nq kq, .slice pc nc kc, .slice pb nb kb, .slice ph nh kh] := rdN_sng (vs := [.slice pq nq kq, .slice pc nc kc, .slice pb nb kb, .slice ph nh kh])
 have c0 : rdc (sng b1 (.cells #[.slice pq nq kq, .slice pc nc kc, .slice pb nb kb, .slice ph nh kh] 29 (0, 0))) b1 0 = some (.slice pq nq kq) := by rw [rdc_sng]; rfl
 have c1 : rdc (sng b1 (.cells #[.slice pq nq kq, .slice pc nc kc, .slice pb nb kb, .slice ph nh kh] 29 (0, 0))) b1 1 = some (.slice pc nc kc) := by rw [rdc_sng]; rfl
 have c2 : rdc (sng b1 (.cells #[.slice pq nq kq, .slice pc nc kc, .slice pb nb kb, .slice ph nh kh] 29 (0, 0))) b1 2 = some (.slice pb nb kb) := by rw [rdc_sng]; rfl
 have c3 : rdc (sng b1 (.cells #[.slice pq nq kq, .slice pc nc kc, .slice pb nb kb, .slice ph nh kh] 29 (0, 0))) b1 3 = some (.slice ph nh kh) := by rw [rdc_sng]; rfl
 have ctp : RdP (sng b1 (.cells #[.slice pq nq kq, .slice pc nc kc, .slice pb nb kb, .slice ph nh kh] 29 (0, 0))) b1 0 [.slice pq nq kq, .slice pc nc kc] := rdP_sng (xs := [.slice pq nq kq, .slice pc nc kc, .slice pb nb kb, .slice ph nh kh]) rfl
 refine AD ?_
 refine AE ?_
 refine AC ?_
 refine AA ?_
 refine AH ?_
 refine AS ?_
 refine AZ (greatPlanp_spec pq pc kq kc nq nc) rfl rfl rdZ rfl rfl ?_
 rintro _ rfl
 by_cases h1 : 6 < nq ∨ 10 < nc
 ·rw [decide_eq_true h1, decide_eq_true (by omega)]
  refine AB ?_
  refine AF rfl rfl rfl ?_
  refine AF rfl rfl rfl ?_
  refine AF rfl rfl rfl ?_
  refine AF rfl rfl rfl ?_
  refine AK ?_
  refine AB ?_
  refine AF rfl rfl rfl ?_
  refine AF rfl rfl rfl ?_
  refine AF rfl rfl rfl ?_
  refine AF rfl rfl rfl ?_
  refine AK ?_
  refine AD ?_
  refine AE ?_
  exact AI (res1 rfl rfl) rsubZ selZ ⟨rfl, rfl⟩
 rw [decide_eq_false h1]
 by_cases h2 : 30 < nb
 ·rw [decide_eq_true (by omega)]
  refine AB ?_
  refine AH ?_
  refine AG ?_
  refine A3 ?_
  refine CI ?_
  refine AJ ?_
  refine AB ?_
  refine AF rfl rfl rfl ?_
  refine AF rfl rfl rfl ?_
  refine AF rfl rfl rfl ?_
  refine AF rfl rfl rfl ?_
  refine AK ?_
  refine AD ?_
  refine AE ?_
  exact AI (res1 rfl rfl) rsubZ selZ ⟨rfl, rfl⟩
 by_cases h3 : 30 < nh
 ·rw [decide_eq_true (by omega)]
  refine AB ?_
  refine AH ?_
  refine AG ?_
  refine A3 ?_
  refine BR ?_
  refine AJ ?_
  refine AB ?_
  refine AH ?_
  refine AG ?_
  refine A3 ?_
  refine CI ?_
  refine AJ ?_
  refine AD ?_
  refine AE ?_
  exact AI (res1 rfl rfl) rsubZ selZ ⟨rfl, rfl⟩
 rw [decide_eq_false (by omega)]
 refine AB ?_
 refine AH ?_
 refine AG ?_
 refine A3 ?_
 refine BR ?_
 refine AJ ?_
 refine AB ?_
 refine AH ?_
 refine AG ?_
 refine A3 ?_
 refine BR ?_
 refine AJ ?_
 refine AD ?_
 refine AE ?_
 exact AI (res1 rfl rfl) rsubZ selZ ⟨rfl, rfl⟩
set_option maxHeartbeats 16000000 in
theorem great55_spec (pq pc pb ph q : Option Addr) (kq kc kb kh kl nq nc nb nh n : Nat) (d : Dm) : Ans Tryz.prog (fv 6) [.agg #[.slice pq nq kq, .slice pc nc kc, .slice pb nb kb, .slice ph nh kh], .agg #[int d.s, int d.d, int d.v, int d.r, int d.e], .slice q n kl] [] (fun r => ∃ b, r = .bool b ∧ (b = false → (nq ≤ 6 ∧ nc ≤ 10 ∧ nb ≤ 30 ∧ nh ≤ 30) ∧ n ≤ 60)) := by
 refine spec_in (cap := []) Tryz.func6 rfl rfl Tryz.ntmps6 rfl envZ (fun N β => ?_)
 refine AC ?_
 refine AA ?_
 refine BS (BV rfl) rfl rfl rfl ?_
 rintro _ _ ⟨b1, rfl, rfl⟩
 refine AT (ρ := sng b1 _) takeZ ?_
 have c : RdN (sng b1 (.cells #[.slice pq nq kq, .slice pc nc kc, .slice pb nb kb, .slice ph nh kh] 29 (0, 0))) b1 0 [.slice pq nq kq, .slice pc nc kc, .slice pb nb kb, .slice ph nh kh] := rdN_sng (vs := [.slice pq nq kq, .slice pc nc kc, .slice pb nb kb, .slice ph nh kh])
 refine BS (BV rfl) rfl rfl rfl ?_
 rintro _ _ ⟨b2, rfl, rfl⟩
 refine AT (ρ := sng b2 _) takeZ ?_
 have cd : RdN (sng b2 (.cells #[int d.s, int d.d, int d.v, int d.r, int d.e] 31 (0, 0))) b2 0 [int d.s, int d.d, int d.v, int d.r, int d.e] := rdN_sng (vs := [int d.s, int d.d, int d.v, int d.r, int d.e])
 have cd0 : rdc (sng b2 (.cells #[int d.s, int d.d, int d.v, int d.r, int d.e] 31 (0, 0))) b2 0 = some (int d.s) := by rw [rdc_sng]; rfl
 have cd1 : rdc (sng b2 (.cells #[int d.s, int d.d, int d.v, int d.r, int d.e] 31 (0, 0))) b2 1 = some (int d.d) := by rw [rdc_sng]; rfl
 have cd2 : rdc (sng b2 (.cells #[int d.s, int d.d, int d.v, int d.r, int d.e] 31 (0, 0))) b2 2 = some (int d.v) := by rw [rdc_sng]; rfl
 have cd3 : rdc (sng b2 (.cells #[int d.s, int d.d, int d.v, int d.r, int d.e] 31 (0, 0))) b2 3 = some (int d.r) := by rw [rdc_sng]; rfl
 have cd4 : rdc (sng b2 (.cells #[int d.s, int d.d, int d.v, int d.r, int d.e] 31 (0, 0))) b2 4 = some (int d.e) := by rw [rdc_sng]; rfl
 refine AD ?_
 refine AE ?_
 refine AC ?_
 refine AA ?_
 refine AS ?_
 refine AZ (great29p_spec pq pc pb ph kq kc kb kh nq nc nb nh) rfl rfl rdZ rfl rfl ?_
 rintro _ rfl
 by_cases h1 : 6 < nq ∨ 10 < nc ∨ 30 < nb ∨ 30 < nh
 ·rw [decide_eq_true h1]
  refine AB ?_
  refine AF rfl rfl rfl ?_
  refine AF rfl rfl rfl ?_
  refine AF rfl rfl rfl ?_
  refine AF rfl rfl rfl ?_
  refine AF rfl rfl rfl ?_
  refine AF rfl rfl rfl ?_
  refine AF rfl rfl rfl ?_
  refine AF rfl rfl rfl ?_
  refine AF rfl rfl rfl ?_
  refine AF rfl rfl rfl ?_
  refine AF rfl rfl rfl ?_
  refine AF rfl rfl rfl ?_
  refine AF rfl rfl rfl ?_
  refine AF rfl rfl rfl ?_
  refine AK ?_
  refine AB ?_
  refine AF rfl rfl rfl ?_
  refine AF rfl rfl rfl ?_
  refine AF rfl rfl rfl ?_
  refine AK ?_
  refine AD ?_
  refine AE ?_
  exact AI (res1 rfl rfl) rsubZ selZ ⟨rfl, true, rfl, fun h => by simp at h⟩
 rw [decide_eq_false h1]
 obtain ⟨w1, hw1⟩ : ∃ w1, w1 = IntKind.i64.wrap (d.r + 30) := ⟨_, rfl⟩
 obtain ⟨w2, hw2⟩ : ∃ w2, w2 = IntKind.i64.wrap (d.r + 100) := ⟨_, rfl⟩
 by_cases h2 : w1 < d.e
 ·by_cases h3 : d.e ≤ w2
  ·refine AB ?_
   refine AH ?_
   refine AG ?_
   refine AH ?_
   refine AG ?_
   focus ((refine CX (EK rfl rfl) rfl rfl rfl ?_; first | rw [← hw1] | rw [← hw2]))
   refine CI ?_
   refine AB ?_
   refine AH ?_
   refine AG ?_
   refine AH ?_
   refine AG ?_
   focus ((refine CX (EK rfl rfl) rfl rfl rfl ?_; first | rw [← hw1] | rw [← hw2]))
   refine CZ ?_
   refine AK ?_
   refine AJ ?_
   refine AB ?_
   refine AF rfl rfl rfl ?_
   refine AF rfl rfl rfl ?_
   refine AF rfl rfl rfl ?_
   refine AK ?_
   refine AD ?_
   refine AE ?_
   exact AI (res1 rfl rfl) rsubZ selZ ⟨rfl, true, rfl, fun h => by simp at h⟩
  ·by_cases h4 : 60 < n
   ·refine AB ?_
    refine AH ?_
    refine AG ?_
    refine AH ?_
    refine AG ?_
    focus ((refine CX (EK rfl rfl) rfl rfl rfl ?_; first | rw [← hw1] | rw [← hw2]))
    refine CI ?_
    refine AB ?_
    refine AH ?_
    refine AG ?_
    refine AH ?_
    refine AG ?_
    focus ((refine CX (EK rfl rfl) rfl rfl rfl ?_; first | rw [← hw1] | rw [← hw2]))
    refine CO ?_
    refine AK ?_
    refine AJ ?_
    refine AB ?_
    refine AB ?_
    refine A3 ?_
    refine CI ?_
    refine AJ ?_
    refine AD ?_
    refine AE ?_
    exact AI (res1 rfl rfl) rsubZ selZ ⟨rfl, true, rfl, fun h => by simp at h⟩
   ·refine AB ?_
    refine AH ?_
    refine AG ?_
    refine AH ?_
    refine AG ?_
    focus ((refine CX (EK rfl rfl) rfl rfl rfl ?_; first | rw [← hw1] | rw [← hw2]))
    refine CI ?_
    refine AB ?_
    refine AH ?_
    refine AG ?_
    refine AH ?_
    refine AG ?_
    focus ((refine CX (EK rfl rfl) rfl rfl rfl ?_; first | rw [← hw1] | rw [← hw2]))
    refine CO ?_
    refine AK ?_
    refine AJ ?_
    refine AB ?_
    refine AB ?_
    refine A3 ?_
    refine BR ?_
    refine AJ ?_
    refine AD ?_
    refine AE ?_
    exact AI (res1 rfl rfl) rsubZ selZ ⟨rfl, false, rfl, fun _ => by omega⟩
 ·by_cases h4 : 60 < n
  ·refine AB ?_
   refine AH ?_
   refine AG ?_
   refine AH ?_
   refine AG ?_
   focus ((refine CX (EK rfl rfl) rfl rfl rfl ?_; first | rw [← hw1] | rw [← hw2]))
   refine BR ?_
   refine AB ?_
   refine AF rfl rfl rfl ?_
   refine AF rfl rfl rfl ?_
   refine AF rfl rfl rfl ?_
   refine AF rfl rfl rfl ?_
   refine AF rfl rfl rfl ?_
   refine AF rfl rfl rfl ?_
   refine AJ ?_
   refine AJ ?_
   refine AB ?_
   refine AB ?_
   refine A3 ?_
   refine CI ?_
   refine AJ ?_
   refine AD ?_
   refine AE ?_
   exact AI (res1 rfl rfl) rsubZ selZ ⟨rfl, true, rfl, fun h => by simp at h⟩
  ·refine AB ?_
   refine AH ?_
   refine AG ?_
   refine AH ?_
   refine AG ?_
   focus ((refine CX (EK rfl rfl) rfl rfl rfl ?_; first | rw [← hw1] | rw [← hw2]))
   refine BR ?_
   refine AB ?_
   refine AF rfl rfl rfl ?_
   refine AF rfl rfl rfl ?_
   refine AF rfl rfl rfl ?_
   refine AF rfl rfl rfl ?_
   refine AF rfl rfl rfl ?_
   refine AF rfl rfl rfl ?_
   refine AJ ?_
   refine AJ ?_
   refine AB ?_
   refine AB ?_
   refine A3 ?_
   refine BR ?_
   refine AJ ?_
   refine AD ?_
   refine AE ?_
   exact AI (res1 rfl rfl) rsubZ selZ ⟨rfl, false, rfl, fun _ => by omega⟩
end Go.Proofs.YtknfhiolenobaaaGreat
/- The example; the laws on flows and answers. -/
namespace Go.Proofs.YtknfhiolenobaaaGreat
open Go.Eng Go.Step
set_option maxRecDepth 100000
set_option maxHeartbeats 4000000

def exQ : List Int := [9, 9]
def exC : List Ct := [⟨0, 1, 0, 10, 4, 2, 0⟩]
def exD : Dm := ⟨0, 1, 13, 0, 5⟩
def exL : List Sh := [⟨0, 0, 4⟩, ⟨0, 1, 4⟩, ⟨0, 2, 4⟩]
def exK : Cu := [[(0, 6)], []]
theorem ex_flow : flowR exQ exC [] [] exD exL = (12, 0) := by decide +kernel
theorem ex_cap : capR exQ exC [] [] exD exK = (12, 0) := by decide +kernel
theorem ex_chk : checkR exQ exC [] [] exD false 12 [] exK = 0 := by decide +kernel
theorem example_spec : Eng.Spec Tryz.prog (fv 20) [] [] [] (fun r H' => ∃ bq bc, r = .tuple #[.agg #[.slice (some ⟨bq, 0, none⟩) 2 2, .slice (some ⟨bc, 0, none⟩) 1 1, .slice none 0 0, .slice none 0 0], .agg #[int 0, int 1, int 13, int 0, int 5]] ∧ H' = [sng bq (.cells #[int 9, int 9] 3 (0, 0)), sng bc (.cells #[int 0, int 1, int 0, int 10, int 4, int 2, int 0] 85 (0, 0))]) := by
 refine spec_in (cap := []) Tryz.func20 rfl rfl Tryz.ntmps20 rfl envZ (fun N β => ?_)
 refine AC ?_
 refine AA ?_
 refine AX ?_; rintro _ _ ⟨b, rfl, rfl⟩
 refine AX ?_; rintro _ _ ⟨b, rfl, rfl⟩
 refine AE ?_
 refine AC ?_
 refine AA ?_
 refine A5 ?_; rintro _ _ ⟨b, rfl, rfl⟩
 refine BN ?_
 focus ((refine' BS _ rfl rfl rfl _; rotate_left; (focus (apply DR; exact rfl; exact rfl; exact rfl; exact rfl; exact rfl; exact (by (repeat (first | exact (fun v hv => absurd hv List.not_mem_nil) | (refine List.forall_mem_cons.2 ⟨?_, ?_⟩; (focus (first | exact rfl | assumption))))); first | done | fail); exact Flat.agg7 Flat.nil; exact rfl)); rintro _ _ ⟨b, rfl, rfl⟩))
 refine BN ?_
 refine AX ?_; rintro _ _ ⟨b, rfl, rfl⟩
 refine AW ?_; rintro _ _ ⟨rfl, rfl⟩
 refine AE ?_
 refine AC ?_
 refine AA ?_
 refine AS ?_
 revert b; intro bp
 revert b; intro bc
 revert b; intro bq
 revert b; intro bd
 revert b; intro bt
 refine CX (EL (out := [.slice (some ⟨bq, 0, none⟩) 2 2, .slice (some ⟨bc, 0, none⟩) 1 1, .slice none 0 0, .slice none 0 0]) rfl rfl rfl rfl rfl) rfl rfl rfl ?_
 refine BN ?_
 refine AW ?_; rintro _ _ ⟨rfl, rfl⟩
 refine AW ?_; rintro _ _ ⟨rfl, rfl⟩
 refine AE ?_
 exact AI (resS2 (b1 := bt) (b2 := bd) (T := 29) (U := 31) (v1 := [.slice (some ⟨bq, 0, none⟩) 2 2, .slice (some ⟨bc, 0, none⟩) 1 1, .slice none 0 0, .slice none 0 0]) (v2 := [int 0, int 1, int 13, int 0, int 5]) rfl rfl rfl rfl rfl rfl rfl (cells_own memZ) (cells_own memZ)) rsubZ selZ ⟨bq, bc, rfl, rfl⟩
set_option maxHeartbeats 16000000 in
theorem awake55_spec : Ans Tryz.prog (fv 8) [] [] (fun r => r = .bool true) := by
 refine spec_in (cap := []) Tryz.func8 rfl rfl Tryz.ntmps8 rfl envZ (fun N β => ?_)
 refine C6 ?_
 refine AC ?_
 refine AA ?_
 refine AD ?_
 refine AE ?_
 refine AC ?_
 refine AA ?_
 refine BL example_spec rfl rfl Takes.nil rdZ rfl rfl ?_
 rintro _ _ ⟨bq, bc, rfl, rfl⟩
 refine AB ?_
 refine AP ?_
 refine AP ?_
 refine AX ?_; rintro _ _ ⟨b, rfl, rfl⟩
 refine AX ?_; rintro _ _ ⟨b, rfl, rfl⟩
 refine AW ?_; rintro _ _ ⟨rfl, rfl⟩
 refine AW ?_; rintro _ _ ⟨rfl, rfl⟩
 refine AE ?_
 refine AC ?_
 refine AA ?_
 refine AS ?_
 refine AS ?_
 refine BN ?_
 refine BN ?_
 refine BN ?_
 refine A5 ?_; rintro _ _ ⟨b, rfl, rfl⟩
 revert b; intro bs
 revert b; intro bd
 revert b; intro bt
 have hT : TbAt (sng bq (.cells #[int 9, int 9] 3 (0, 0))) (sng bc (.cells #[int 0, int 1, int 0, int 10, int 4, int 2, int 0] 85 (0, 0))) emp emp (some ⟨bq, 0, none⟩) (some ⟨bc, 0, none⟩) none none 2 1 0 0 exQ exC [] [] :=
  ⟨slE_sng (l := exQ) Eng.encI_len, slE_sng (l := exC) encC_len, by decide, by decide, by decide, ⟨rfl, .inl ⟨rfl, none, 0, rfl⟩⟩, by decide, ⟨rfl, .inl ⟨rfl, none, 0, rfl⟩⟩, by decide⟩
 have hv : ShAt (sng bs (.cells #[int 0, int 0, int 4, int 0, int 1, int 4, int 0, int 2, int 4] 68 (0, 0))) (.slice (some ⟨bs, 0, none⟩) 3 3) exL := slE_sng (l := exL) encX_len
 have h1 := certFlow_spec _ hT exD _ exL hv (by decide)
 rw [ex_flow] at h1
 refine AZ h1 rfl rfl rdZ rfl rfl ?_
 rintro _ rfl
 refine AB ?_
 refine AP ?_
 refine AP ?_
 refine AD ?_
 refine AD ?_
 refine AE ?_
 refine AC ?_
 refine AA ?_
 refine AS ?_
 refine AS ?_
 refine BN ?_
 refine A5 ?_; rintro _ _ ⟨b, rfl, rfl⟩
 refine A5 ?_; rintro _ _ ⟨b, rfl, rfl⟩
 revert b; intro bk
 revert b; intro bx
 have hc : CutRow (sng bk (.cells #[.slice (some ⟨bx, 0, none⟩) 1 1, .slice none 0 0] 64 (0, 0))) (sng bx (.cells #[int 0, int 6] 70 (0, 0))) (some ⟨bk, 0, none⟩) exK := fun i l hl => by
  match i, hl with
  | 0, hl =>
   obtain rfl : [(0, 6)] = l := by simpa [exK] using hl
   exact ⟨bk, 0, some ⟨bx, 0, none⟩, 1, rfl, by rw [rdc_sng]; rfl, slE_sng (l := [((0 : Int), (6 : Int))]) encS_len, by decide⟩
  | 1, hl =>
   obtain rfl : [] = l := by simpa [exK] using hl
   exact ⟨bk, 0, none, 0, rfl, by rw [rdc_sng]; rfl, ⟨rfl, .inl ⟨rfl, none, 0, rfl⟩⟩, by decide⟩
  | i + 2, hl => simp [exK] at hl
 have h2 := certCap_spec hT _ _ exD _ 2 exK hc (by decide)
 rw [ex_cap] at h2
 refine AZ h2 rfl rfl rdZ rfl rfl ?_
 rintro _ rfl
 refine AB ?_
 refine AP ?_
 refine AP ?_
 refine AD ?_
 refine AD ?_
 refine AE ?_
 refine AC ?_
 refine AA ?_
 refine AS ?_
 refine AS ?_
 refine BN ?_
 refine A5 ?_; rintro _ _ ⟨b, rfl, rfl⟩
 refine A5 ?_; rintro _ _ ⟨b, rfl, rfl⟩
 refine BN ?_
 revert b; intro bk2
 revert b; intro bx2
 have hc2 : CutRow (sng bk2 (.cells #[.slice (some ⟨bx2, 0, none⟩) 1 1, .slice none 0 0] 64 (0, 0))) (sng bx2 (.cells #[int 0, int 6] 70 (0, 0))) (some ⟨bk2, 0, none⟩) exK := fun i l hl => by
  match i, hl with
  | 0, hl =>
   obtain rfl : [(0, 6)] = l := by simpa [exK] using hl
   exact ⟨bk2, 0, some ⟨bx2, 0, none⟩, 1, rfl, by rw [rdc_sng]; rfl, slE_sng (l := [((0 : Int), (6 : Int))]) encS_len, by decide⟩
  | 1, hl =>
   obtain rfl : [] = l := by simpa [exK] using hl
   exact ⟨bk2, 0, none, 0, rfl, by rw [rdc_sng]; rfl, ⟨rfl, .inl ⟨rfl, none, 0, rfl⟩⟩, by decide⟩
  | i + 2, hl => simp [exK] at hl
 have hv0 : ShAt emp (.slice none 0 0) [] := ⟨rfl, .inl ⟨rfl, none, 0, rfl⟩⟩
 have h3 := certChk_spec emp hT _ _ exD false 12 none 0 [] hv0 (by decide) _ 2 exK hc2 (by decide)
 rw [ex_chk] at h3
 refine AZ h3 rfl rfl rdZ rfl rfl ?_
 rintro _ rfl
 refine AD ?_
 refine AE ?_
 refine AC ?_
 refine AA ?_
 refine AB ?_
 refine CP ?_
 refine AB ?_
 refine AB ?_
 refine CP ?_
 refine AK ?_
 refine AB ?_
 refine AB ?_
 refine CP ?_
 refine AK ?_
 refine AB ?_
 refine AB ?_
 refine CP ?_
 refine AK ?_
 refine AB ?_
 refine AB ?_
 refine CP ?_
 refine AK ?_
 refine AD ?_
 refine AE ?_
 exact AI (res1 rfl rfl) rsubZ selZ ⟨rfl, rfl⟩
end Go.Proofs.YtknfhiolenobaaaGreat
/- Maximum flows as shipments; cuts of sets. No program in sight. No conditions. -/
namespace Go.Step
open Go.Flow (Flw fval)
variable {qs : List Int} {cs : List Ct} {bs : List Bk} {hs : List Hd} {d : Dm}
theorem max_nonneg (h : VOk qs cs bs hs d) {F : List Int} {m e : Int} (hm : MaxN qs cs bs hs d F m e) : 0 ≤ m := by
  obtain ⟨_, _, _, _, _, _, _, _, _, P, _, _, hP⟩ := max_cut h hm
  have hdm := h.dm
  unfold okDm at hdm
  have hn : 0 < qs.length := by have := h.nq; omega
  have h1 := waitB_nonneg h P hn d.r
  have h2 := capB_wait_le h P hn (t := d.r) (Int.le_refl _) (by omega)
  omega
theorem ships_max (h : VOk qs cs bs hs d) (hv : validT qs cs bs hs d = true) {F : List Int} {m : Int} (hm : MaxN qs cs bs hs d F m 0) : flowR qs cs bs hs d (shipsF (arcsE qs cs bs hs d) F) = (m, 0) ∧ shipsE qs cs bs hs d F = 0 ∧ shipsR qs cs bs hs d F = shipsF (arcsE qs cs bs hs d) F := by
  have h0 := max_nonneg h hm
  obtain ⟨_, N, S, T, hN, hS, hT, hf, hval, _⟩ := max_cut h hm
  have hsE := shipsE_flow h hv hN hS hT hf
  exact ⟨by rw [ships_flow h hv hN hS hT hf (by omega), hval], hsE, by unfold shipsR; rw [if_pos hsE]⟩
theorem capR_set (h : VOk qs cs bs hs d) (hv : validT qs cs bs hs d = true) (side : List Int) :
    capR qs cs bs hs d (sidesC d qs.length side) = if vtx d d.s d.r ∈ side ∧ ¬ vtx d d.d d.e ∈ side then (Go.Flow.capOf (fun j => decide ((j : Int) ∈ side)) (arcsG qs cs bs hs d), 0) else (0, 24) := by
  have hdm := h.dm
  unfold okDm at hdm
  have hall : ∀ n t : Int, 0 ≤ n → n < (qs.length : Int) → d.r ≤ t → t ≤ d.e → hasI (cuAt (sidesC d qs.length side) n) t = decide (vtx d n t ∈ side) := fun n t h1 h2 h3 h4 => by
    obtain ⟨j, rfl⟩ := Int.eq_ofNat_of_zero_le h1
    rw [sidesC_at d side (by omega), sideI_has h side h3 h4]
  have hs := hall _ _ hdm.1.1 hdm.1.2 (Int.le_refl d.r) (by omega)
  have hd := hall _ _ hdm.2.1.1 hdm.2.1.2 (show d.r ≤ d.e by omega) (Int.le_refl d.e)
  have hbad : (sidesC d qs.length side).any (badL2 d) = false := any_badL2.2 (fun l hm => by
    unfold sidesC at hm
    obtain ⟨n, _, rfl⟩ := List.mem_map.1 hm
    exact ⟨sideI_chk h side _, sideI_in (by omega) side _⟩)
  unfold capR
  rw [if_neg (by rw [hv]; simp), if_neg (by unfold sidesC; simp), if_neg (by rw [hbad]; simp), hs, hd]
  by_cases hc : vtx d d.s d.r ∈ side ∧ ¬ vtx d d.d d.e ∈ side
  · rw [if_pos hc, if_neg (by rw [decide_eq_false_iff_not, decide_eq_true_eq]; rintro (h1 | h1); exact h1 hc.1; exact hc.2 h1)]
    congr 1
    rw [capSum_B, capB_eq h]
    refine capB_congr h (fun n t h0 hn h1 h2 => ?_)
    rw [hall _ _ h0 hn h1 h2]
    have hp := vtx_lt (d := d) (n := n) (t := t) (N := qs.length) h0 hn h1 h2
    rw [Int.toNat_of_nonneg hp.1]
  · rw [if_neg hc, if_pos]
    rw [decide_eq_false_iff_not, decide_eq_true_eq]
    by_cases h1 : vtx d d.s d.r ∈ side
    · exact .inr (Decidable.not_not.1 (fun h2 => hc ⟨h1, h2⟩))
    · exact .inl h1
end Go.Step
/- Networks as certificates. -/
namespace Go.Proofs.YtknfhiolenobaaaGreat
open Go.Eng Go.Step
set_option maxRecDepth 100000
set_option maxHeartbeats 4000000

theorem pair_ext {x : Int × Int} {a b : Int} (h : x = (a, b)) : x.1 = a ∧ x.2 = b := by rw [h]; exact ⟨rfl, rfl⟩
theorem any_mem (l : List Int) (a : Int) : l.any (fun v => decide (v = a)) = decide (a ∈ l) := by
 by_cases h : a ∈ l
 ·rw [decide_eq_true h, List.any_eq_true]
  exact ⟨a, h, by simp⟩
 ·rw [decide_eq_false h, List.any_eq_false]
  intro x hx hn
  rw [decide_eq_true_eq] at hn
  exact h (hn ▸ hx)
theorem caps_of {qs : List Int} {cs : List Ct} {bs : List Bk} {hs : List Hd} {d : Dm} {side : List Int} (hv : validT qs cs bs hs d = true) (hE : sidesE qs cs bs hs d side = 0) : (Go.Flow.capacitySpec (vsN qs d) (arcsG qs cs bs hs d) side).1 = Go.Flow.capOf (fun j => decide ((j : Int) ∈ side)) (arcsG qs cs bs hs d) := by
 unfold sidesE at hE
 rw [if_pos hv] at hE
 unfold Go.Flow.capacitySpec at hE ⊢
 split at hE
 ·rename_i h1; exact absurd hE h1
 rename_i h1
 rw [if_neg h1]
 split at hE
 ·rename_i h2; exact absurd hE h2
 rename_i h2
 rw [if_neg h2]
set_option maxHeartbeats 64000000 in
theorem networks_law {ρ τ σ υ : PH} {pq pc pb ph : Option Addr} {kq kc kb kh : Nat} {qs : List Int} {cs : List Ct} {bs : List Bk} {hs : List Hd} (hT : TbAt ρ τ σ υ pq pc pb ph kq kc kb kh qs cs bs hs) (d : Dm) (ω : PH) (pw : Option Addr) (kw : Nat) (side : List Int) (hw : IntsAt ω (.slice pw side.length kw) side) (hsl : side.length ≤ 9223372036854775807) :
  Ans Tryz.prog (fv 4) [.agg #[.slice pq qs.length kq, .slice pc cs.length kc, .slice pb bs.length kb, .slice ph hs.length kh], .agg #[int d.s, int d.d, int d.v, int d.r, int d.e], .slice pw side.length kw] [ρ, τ, σ, υ, ω] (fun r => r = .bool true) := by
 have hgr := great55_spec pq pc pb ph none kq kc kb kh 0 qs.length cs.length bs.length hs.length 0 d
 have hrw := rowN Eng.encI_len hw
 refine spec_in (cap := []) Tryz.func4 rfl rfl Tryz.ntmps4 rfl envZ (fun N β => ?_)
 refine AC ?_
 refine AA ?_
 refine BS (BV rfl) rfl rfl rfl ?_
 rintro _ _ ⟨b1, rfl, rfl⟩
 refine AT (ρ := sng b1 _) takeZ ?_
 have ct : RdN (sng b1 (.cells #[.slice pq qs.length kq, .slice pc cs.length kc, .slice pb bs.length kb, .slice ph hs.length kh] 29 (0, 0))) b1 0 [.slice pq qs.length kq, .slice pc cs.length kc, .slice pb bs.length kb, .slice ph hs.length kh] := rdN_sng (vs := [.slice pq qs.length kq, .slice pc cs.length kc, .slice pb bs.length kb, .slice ph hs.length kh])
 have ct0 : rdc (sng b1 (.cells #[.slice pq qs.length kq, .slice pc cs.length kc, .slice pb bs.length kb, .slice ph hs.length kh] 29 (0, 0))) b1 0 = some (.slice pq qs.length kq) := by rw [rdc_sng]; rfl
 have ct1 : rdc (sng b1 (.cells #[.slice pq qs.length kq, .slice pc cs.length kc, .slice pb bs.length kb, .slice ph hs.length kh] 29 (0, 0))) b1 1 = some (.slice pc cs.length kc) := by rw [rdc_sng]; rfl
 have ct2 : rdc (sng b1 (.cells #[.slice pq qs.length kq, .slice pc cs.length kc, .slice pb bs.length kb, .slice ph hs.length kh] 29 (0, 0))) b1 2 = some (.slice pb bs.length kb) := by rw [rdc_sng]; rfl
 have ct3 : rdc (sng b1 (.cells #[.slice pq qs.length kq, .slice pc cs.length kc, .slice pb bs.length kb, .slice ph hs.length kh] 29 (0, 0))) b1 3 = some (.slice ph hs.length kh) := by rw [rdc_sng]; rfl
 have ctp : RdP (sng b1 (.cells #[.slice pq qs.length kq, .slice pc cs.length kc, .slice pb bs.length kb, .slice ph hs.length kh] 29 (0, 0))) b1 0 [.slice pq qs.length kq, .slice pc cs.length kc] := rdP_sng (xs := [.slice pq qs.length kq, .slice pc cs.length kc, .slice pb bs.length kb, .slice ph hs.length kh]) rfl
 refine BS (BV rfl) rfl rfl rfl ?_
 rintro _ _ ⟨b2, rfl, rfl⟩
 refine AT (ρ := sng b2 _) takeZ ?_
 have cd : RdN (sng b2 (.cells #[int d.s, int d.d, int d.v, int d.r, int d.e] 31 (0, 0))) b2 0 [int d.s, int d.d, int d.v, int d.r, int d.e] := rdN_sng (vs := [int d.s, int d.d, int d.v, int d.r, int d.e])
 have cd0 : rdc (sng b2 (.cells #[int d.s, int d.d, int d.v, int d.r, int d.e] 31 (0, 0))) b2 0 = some (int d.s) := by rw [rdc_sng]; rfl
 have cd1 : rdc (sng b2 (.cells #[int d.s, int d.d, int d.v, int d.r, int d.e] 31 (0, 0))) b2 1 = some (int d.d) := by rw [rdc_sng]; rfl
 have cd2 : rdc (sng b2 (.cells #[int d.s, int d.d, int d.v, int d.r, int d.e] 31 (0, 0))) b2 2 = some (int d.v) := by rw [rdc_sng]; rfl
 have cd3 : rdc (sng b2 (.cells #[int d.s, int d.d, int d.v, int d.r, int d.e] 31 (0, 0))) b2 3 = some (int d.r) := by rw [rdc_sng]; rfl
 have cd4 : rdc (sng b2 (.cells #[int d.s, int d.d, int d.v, int d.r, int d.e] 31 (0, 0))) b2 4 = some (int d.e) := by rw [rdc_sng]; rfl
 refine AD ?_
 refine AE ?_
 refine AC ?_
 refine AC ?_
 refine AA ?_
 refine AS ?_
 refine AS ?_
 refine AZ hgr rfl rfl rdZ rfl rfl ?_
 rintro _ ⟨b, rfl, _⟩
 cases b with
 | true =>
  refine AB ?_
  refine AF rfl rfl rfl ?_
  refine AF rfl rfl rfl ?_
  refine AF rfl rfl rfl ?_
  refine AK ?_
  refine AE ?_
  refine AM rfl ?_
  refine AC ?_
  refine AA ?_
  refine AZ awake55_spec rfl rfl rdZ rfl rfl ?_
  rintro _ rfl
  refine AD ?_
  refine AE ?_
  exact AI (res1 rfl rfl) rsubZ selZ ⟨rfl, rfl⟩
 | false =>
 by_cases c1 : 400 < side.length
 ·refine AB ?_
  refine AB ?_
  refine A3 ?_
  refine CI ?_
  refine AJ ?_
  refine AE ?_
  refine AM rfl ?_
  refine AC ?_
  refine AA ?_
  refine AZ awake55_spec rfl rfl rdZ rfl rfl ?_
  rintro _ rfl
  refine AD ?_
  refine AE ?_
  exact AI (res1 rfl rfl) rsubZ selZ ⟨rfl, rfl⟩
 refine AB ?_
 refine AB ?_
 refine A3 ?_
 refine BR ?_
 refine AJ ?_
 refine AE ?_
 refine AN rfl ?_
 refine AL ?_
 refine AC ?_
 refine AA ?_
 refine AS ?_
 refine AS ?_
 refine C9 (Graph_spec hT d) rfl rfl rdZ rfl rfl ?_
 rintro _ σg hg
 cases hv : validT qs cs bs hs d with
 | false =>
  rw [hv, if_neg (by simp)] at hg
  obtain ⟨rfl, rfl⟩ := hg
  refine AB ?_
  refine AP ?_
  refine AP ?_
  refine AX ?_; rintro _ _ ⟨b, rfl, rfl⟩
  refine AW ?_; rintro _ _ ⟨rfl, rfl⟩
  refine AD ?_
  refine AE ?_
  refine AC ?_
  refine AC ?_
  refine AA ?_
  refine AB ?_
  refine B9 ?_
  refine AE ?_
  refine AM rfl ?_
  refine AC ?_
  refine AA ?_
  refine AZ awake55_spec rfl rfl rdZ rfl rfl ?_
  rintro _ rfl
  refine AD ?_
  refine AE ?_
  exact AI (res1 rfl rfl) rsubZ selZ ⟨rfl, rfl⟩
 | true =>
 rw [hv, if_pos rfl] at hg
 obtain ⟨ug, rfl, hOg⟩ := hg
 have hAt : ArcsAt σg ug (arcsG qs cs bs hs d) := hOg.at
 obtain ⟨pg, kg, rfl⟩ := hOg.form
 have h := vok hv
 have hEl := ea_len qs cs bs hs d h
 have hAl : (arcsG qs cs bs hs d).length = (arcsE qs cs bs hs d).length := by unfold arcsG; rw [List.length_map]
 refine AT (ρ := σg) takeZ ?_
 have hM := flowMax_spec σg (.slice pg (arcsG qs cs bs hs d).length kg) (vsN qs d) (vtx d d.s d.r) (vtx d d.d d.e) (arcsG qs cs bs hs d) hAt (by omega)
 refine AB ?_
 refine AP ?_
 refine AP ?_
 refine AX ?_; rintro _ _ ⟨b, rfl, rfl⟩
 refine AW ?_; rintro _ _ ⟨rfl, rfl⟩
 refine AD ?_
 refine AE ?_
 refine AC ?_
 refine AC ?_
 refine AA ?_
 refine AB ?_
 refine A9 ?_
 refine AE ?_
 refine AN rfl ?_
 refine AL ?_
 refine AC ?_
 refine AA ?_
 refine AH ?_
 refine AG ?_
 refine AH ?_
 refine AG ?_
 refine AH ?_
 refine AG ?_
 refine AH ?_
 refine AG ?_
 revert b; intro bg
 refine AT (ρ := sng bg _) takeZ ?_
 have gg0 : rdc (sng bg (.cells #[int (vsN qs d), .slice pg (arcsG qs cs bs hs d).length kg, int (vtx d d.s d.r), int (vtx d d.d d.e)] 49 (0, 0))) bg 0 = some (int (vsN qs d)) := by rw [rdc_sng]; rfl
 have gg1 : rdc (sng bg (.cells #[int (vsN qs d), .slice pg (arcsG qs cs bs hs d).length kg, int (vtx d d.s d.r), int (vtx d d.d d.e)] 49 (0, 0))) bg 1 = some (.slice pg (arcsG qs cs bs hs d).length kg) := by rw [rdc_sng]; rfl
 have gg2 : rdc (sng bg (.cells #[int (vsN qs d), .slice pg (arcsG qs cs bs hs d).length kg, int (vtx d d.s d.r), int (vtx d d.d d.e)] 49 (0, 0))) bg 2 = some (int (vtx d d.s d.r)) := by rw [rdc_sng]; rfl
 have gg3 : rdc (sng bg (.cells #[int (vsN qs d), .slice pg (arcsG qs cs bs hs d).length kg, int (vtx d d.s d.r), int (vtx d d.d d.e)] 49 (0, 0))) bg 3 = some (int (vtx d d.d d.e)) := by rw [rdc_sng]; rfl
 refine C9 hM rfl rfl rdZ rfl rfl ?_
 rintro _ σf ⟨fs, F, m, e, rfl, hF, hm⟩
 obtain ⟨he, _⟩ := max_cut h (show MaxN qs cs bs hs d F m e from hm)
 subst he
 obtain ⟨k1, k2, k3⟩ := ships_max h hv (show MaxN qs cs bs hs d F m 0 from hm)
 have hm0 := max_nonneg h (show MaxN qs cs bs hs d F m 0 from hm)
 obtain ⟨pf, kf, rfl, _⟩ := hF.val Eng.encI_len
 refine AT (ρ := σf) takeZ ?_
 have hSh := Shipments_spec hT d σf _ F hF
 rw [k2, k3] at hSh
 have hsl2 := shipsF_len (arcsE qs cs bs hs d) F
 refine AB ?_
 refine AP ?_
 refine AP ?_
 refine AP ?_
 refine AD ?_
 refine AD ?_
 refine AD ?_
 refine AE ?_
 refine AC ?_
 refine AA ?_
 refine AS ?_
 refine AS ?_
 refine AB ?_
 refine C9 hSh rfl rfl rdZ rfl rfl ?_
 rintro _ σs ⟨us, rfl, hOs⟩
 have hSs : ShAt σs us (shipsF (arcsE qs cs bs hs d) F) := hOs.at
 obtain ⟨ps, ks, rfl⟩ := hOs.form
 refine AT (ρ := σs) takeZ ?_
 have hFl := certFlow_spec σs hT d _ _ hSs (by omega)
 rw [(pair_ext k1).1, (pair_ext k1).2] at hFl
 have hD := Sides_spec hT d ω _ side hw (by omega)
 have hEv : sidesE qs cs bs hs d side = (Go.Flow.capacitySpec (vsN qs d) (arcsG qs cs bs hs d) side).2 := by unfold sidesE; rw [if_pos hv]
 have hcap := flowCapacity_spec σg ω (.slice pg (arcsG qs cs bs hs d).length kg) (.slice pw side.length kw) (vsN qs d) (arcsG qs cs bs hs d) side hAt hw (by omega) (by omega)
 refine AB ?_
 refine AP ?_
 refine AP ?_
 refine AD ?_
 refine AD ?_
 refine AE ?_
 refine AC ?_
 refine AA ?_
 refine AS ?_
 refine AS ?_
 refine AB ?_
 refine AZ hFl rfl rfl rdZ rfl rfl ?_
 rintro _ rfl
 refine AB ?_
 refine AP ?_
 refine AP ?_
 refine AD ?_
 refine AD ?_
 refine AE ?_
 refine AC ?_
 refine AC ?_
 refine AA ?_
 refine AB ?_
 refine A9 ?_
 refine AB ?_
 refine AB ?_
 refine A9 ?_
 refine AJ ?_
 refine AB ?_
 refine AB ?_
 refine A9 ?_
 refine AJ ?_
 refine AB ?_
 refine AB ?_
 refine AB ?_
 refine A9 ?_
 refine AJ ?_
 refine AE ?_
 refine AN rfl ?_
 refine AL ?_
 refine AC ?_
 refine AA ?_
 refine AS ?_
 refine AS ?_
 refine AB ?_
 refine BL hD rfl rfl Takes.nil rdZ rfl rfl ?_
 rintro _ _ ⟨L, w, σ3, χ3, rfl, rfl, hL, hCL⟩
 obtain ⟨p2, k2', rfl, _⟩ := hCL.1.val encQ_len
 refine AT (ρ := σ3) takeZ ?_
 refine AT (ρ := χ3) takeZ ?_
 refine AB ?_
 refine AP ?_
 refine AP ?_
 refine AD ?_
 refine AD ?_
 refine AE ?_
 refine AC ?_
 refine AA ?_
 refine AH ?_
 refine AG ?_
 refine AH ?_
 refine AG ?_
 refine AB ?_
 refine AZ hcap rfl rfl rdZ rfl rfl ?_
 rintro _ rfl
 rw [← hEv]
 by_cases hz : sidesE qs cs bs hs d side = 0
 rotate_left
 ·generalize (Go.Flow.capacitySpec (vsN qs d) (arcsG qs cs bs hs d) side).1 = vv
  generalize sidesE qs cs bs hs d side = zz at hz
  clear hL hD hEv
  refine AB ?_
  refine AP ?_
  refine AP ?_
  refine AD ?_
  refine AD ?_
  refine AE ?_
  refine AC ?_
  refine AC ?_
  refine AA ?_
  refine AB ?_
  refine B9 ?_
  refine AB ?_
  refine AF rfl rfl rfl ?_
  refine AF rfl rfl rfl ?_
  refine AK ?_
  refine AE ?_
  refine AM rfl ?_
  refine AC ?_
  refine AA ?_
  refine AB ?_
  refine AB ?_
  refine CP ?_
  refine AB ?_
  refine AZ awake55_spec rfl rfl rdZ rfl rfl ?_
  rintro _ rfl
  refine AK ?_
  refine AD ?_
  refine AE ?_
  exact AI (res1 rfl rfl) rsubZ selZ ⟨rfl, rfl⟩
 have hcs : (Go.Flow.capacitySpec (vsN qs d) (arcsG qs cs bs hs d) side).1 = Go.Flow.capOf (fun j => decide ((j : Int) ∈ side)) (arcsG qs cs bs hs d) := caps_of hv hz
 rw [if_pos hz] at hL
 have hcr := capR_set h hv side
 have hLl : L.length = (cuL L).length := by rw [List.length_map]
 have hC := certCap_spec hT σ3 χ3 d p2 k2' (cuL L) hCL.row (by rw [hL, sidesC_len]; have := h.nq; omega)
 rw [hz, hcs]
 rw [hL, hcr, ← hL, ← hLl] at hC
 generalize Go.Flow.capOf (fun j => decide ((j : Int) ∈ side)) (arcsG qs cs bs hs d) = CC at hC
 refine AB ?_
 refine AP ?_
 refine AP ?_
 refine AD ?_
 refine AD ?_
 refine AE ?_
 refine AC ?_
 refine AC ?_
 refine AA ?_
 refine AB ?_
 refine A9 ?_
 refine AB ?_
 refine AB ?_
 refine A9 ?_
 refine AJ ?_
 refine AE ?_
 refine AN rfl ?_
 refine AL ?_
 refine AC ?_
 refine AA ?_
 refine AD ?_
 refine AD ?_
 refine AE ?_
 refine AC ?_
 refine AC ?_
 refine AA ?_
 refine AB ?_
 refine A3 ?_
 refine AB ?_
 refine AE ?_
 refine AO ?_
 refine BI [3, 4, 7, 15, 17, 113, 114] (0 : Nat) (fun k => k ≤ side.length) (fun k => [(115, int k), (19, .bool ((side.take k).any (fun v => decide (v = vtx d d.s d.r)))), (20, .bool ((side.take k).any (fun v => decide (v = vtx d d.d d.e))))]) (fun _ => []) (fun k => side.length - k) pickZ (by omega) covZ selZ ?_
 rintro k hk
 by_cases hlt : k < side.length
 ·have hx := List.getElem?_eq_getElem hlt
  have t1 : (side.take (k + 1)).any (fun v => decide (v = vtx d d.s d.r)) = ((side.take k).any (fun v => decide (v = vtx d d.s d.r)) || decide (side[k] = vtx d d.s d.r)) := by rw [List.take_succ_eq_append_getElem hlt, List.any_append]; simp
  have t2 : (side.take (k + 1)).any (fun v => decide (v = vtx d d.d d.e)) = ((side.take k).any (fun v => decide (v = vtx d d.d d.e)) || decide (side[k] = vtx d d.d d.e)) := by rw [List.take_succ_eq_append_getElem hlt, List.any_append]; simp
  obtain ⟨b7, o7, ep, gk⟩ := hrw.int hx
  generalize side[k] = v at hx t1 t2 gk
  generalize (side.take k).any (fun v => decide (v = vtx d d.s d.r)) = A at t1
  generalize (side.take k).any (fun v => decide (v = vtx d d.d d.e)) = B at t2
  subst ep
  refine AC ?_
  refine AA ?_
  refine BH ?_
  refine AE ?_
  refine AC ?_
  refine AM rfl ?_
  refine AL ?_
  refine AC ?_
  refine AO ?_
  refine AC ?_
  refine AA ?_
  refine BK ?_
  refine AG ?_
  refine AD ?_
  refine AE ?_
  cases A with
  | true =>
   cases B with
   | true =>
    refine BB (.q 0 (.q 1 (.q 2 (.q 3 (.q 4 (.q 5 (.q 6 (.q 7 (.q 8 (.p 9 (.p 10 (.p 11 (.p 12 (.p 13 (.l 14 .b (.l 15 .b .nil)))))))))))))))) [] rfl (by kernel_rfl) Sel.nil ?_
    refine AR ?_
    refine AR ?_
    refine AU rfl rfl rfl rfl rfl ?_
    refine AU rfl rfl rfl rfl rfl ?_
    refine AU rfl rfl rfl rfl rfl ?_
    refine AU rfl rfl rfl rfl rfl ?_
    refine BU ?_
    refine AR ?_
    refine AR ?_
    refine C8 rfl rfl rfl rfl ?_
    refine C8 rfl rfl rfl rfl ?_
    refine C8 rfl rfl rfl rfl ?_
    refine C8 rfl rfl rfl rfl ?_
    refine EQ ?_
    refine B7 ?_
    refine B7 ?_
    refine BD ?_
    refine A2 ?_
    refine AA ?_
    refine BA ?_
    refine AB ?_
    refine AE ?_
    refine AY (k + 1) (by omega) (by omega) ?_ selZ
    rw [t1, t2]
    simp only [Bool.true_or]
    exact covZ
   | false =>
    by_cases y2 : v = vtx d d.d d.e
    ·refine BB (.q 0 (.q 1 (.q 2 (.q 3 (.q 4 (.q 5 (.q 6 (.q 7 (.q 8 (.p 9 (.p 10 (.p 11 (.p 12 (.p 13 (.l 14 .b (.l 15 .b .nil)))))))))))))))) [] rfl (by kernel_rfl) Sel.nil ?_
     refine AR ?_
     refine AR ?_
     refine AU rfl rfl rfl rfl rfl ?_
     refine AU rfl rfl rfl rfl rfl ?_
     refine AU rfl rfl rfl rfl rfl ?_
     refine AU rfl rfl rfl rfl rfl ?_
     refine BU ?_
     refine AR ?_
     refine AR ?_
     refine D4 ?_
     refine D6 ?_
     refine D5 ?_
     refine HE ?_
     refine DU ?_
     refine B7 ?_
     refine B7 ?_
     refine BD ?_
     refine A2 ?_
     refine AA ?_
     refine BA ?_
     refine AB ?_
     refine AE ?_
     refine AY (k + 1) (by omega) (by omega) ?_ selZ
     rw [t1, t2]
     simp only [Bool.true_or, Bool.false_or, decide_eq_true y2]
     exact covZ
    ·refine BB (.q 0 (.q 1 (.q 2 (.q 3 (.q 4 (.q 5 (.q 6 (.q 7 (.q 8 (.p 9 (.p 10 (.p 11 (.p 12 (.p 13 (.l 14 .b (.l 15 .b .nil)))))))))))))))) [] rfl (by kernel_rfl) Sel.nil ?_
     refine AR ?_
     refine AR ?_
     refine AU rfl rfl rfl rfl rfl ?_
     refine AU rfl rfl rfl rfl rfl ?_
     refine AU rfl rfl rfl rfl rfl ?_
     refine AU rfl rfl rfl rfl rfl ?_
     refine BU ?_
     refine AR ?_
     refine AR ?_
     refine D4 ?_
     refine D6 ?_
     refine D5 ?_
     refine GF ?_
     refine DU ?_
     refine B7 ?_
     refine B7 ?_
     refine BD ?_
     refine A2 ?_
     refine AA ?_
     refine BA ?_
     refine AB ?_
     refine AE ?_
     refine AY (k + 1) (by omega) (by omega) ?_ selZ
     rw [t1, t2]
     simp only [Bool.true_or, Bool.false_or, decide_eq_false y2]
     exact covZ
  | false =>
   by_cases y1 : v = vtx d d.s d.r
   ·cases B with
    | true =>
     refine BB (.q 0 (.q 1 (.q 2 (.q 3 (.q 4 (.q 5 (.q 6 (.q 7 (.q 8 (.p 9 (.p 10 (.p 11 (.p 12 (.p 13 (.l 14 .b (.l 15 .b .nil)))))))))))))))) [] rfl (by kernel_rfl) Sel.nil ?_
     refine AR ?_
     refine AR ?_
     refine AR ?_
     refine AV ?_
     refine AQ ?_
     refine EV ?_
     refine BQ ?_
     refine AR ?_
     refine AR ?_
     refine C8 rfl rfl rfl rfl ?_
     refine C8 rfl rfl rfl rfl ?_
     refine C8 rfl rfl rfl rfl ?_
     refine C8 rfl rfl rfl rfl ?_
     refine EQ ?_
     refine B7 ?_
     refine B7 ?_
     refine BD ?_
     refine A2 ?_
     refine AA ?_
     refine BA ?_
     refine AB ?_
     refine AE ?_
     refine AY (k + 1) (by omega) (by omega) ?_ selZ
     rw [t1, t2]
     simp only [Bool.true_or, Bool.false_or, decide_eq_true y1]
     exact covZ
    | false =>
     by_cases y2 : v = vtx d d.d d.e
     ·refine BB (.q 0 (.q 1 (.q 2 (.q 3 (.q 4 (.q 5 (.q 6 (.q 7 (.q 8 (.p 9 (.p 10 (.p 11 (.p 12 (.p 13 (.l 14 .b (.l 15 .b .nil)))))))))))))))) [] rfl (by kernel_rfl) Sel.nil ?_
      refine AR ?_
      refine AR ?_
      refine AR ?_
      refine AV ?_
      refine AQ ?_
      refine EV ?_
      refine BQ ?_
      refine AR ?_
      refine AR ?_
      refine D4 ?_
      refine D6 ?_
      refine D5 ?_
      refine HE ?_
      refine DU ?_
      refine B7 ?_
      refine B7 ?_
      refine BD ?_
      refine A2 ?_
      refine AA ?_
      refine BA ?_
      refine AB ?_
      refine AE ?_
      refine AY (k + 1) (by omega) (by omega) ?_ selZ
      rw [t1, t2]
      simp only [Bool.false_or, decide_eq_true y1, decide_eq_true y2]
      exact covZ
     ·refine BB (.q 0 (.q 1 (.q 2 (.q 3 (.q 4 (.q 5 (.q 6 (.q 7 (.q 8 (.p 9 (.p 10 (.p 11 (.p 12 (.p 13 (.l 14 .b (.l 15 .b .nil)))))))))))))))) [] rfl (by kernel_rfl) Sel.nil ?_
      refine AR ?_
      refine AR ?_
      refine AR ?_
      refine AV ?_
      refine AQ ?_
      refine EV ?_
      refine BQ ?_
      refine AR ?_
      refine AR ?_
      refine D4 ?_
      refine D6 ?_
      refine D5 ?_
      refine GF ?_
      refine DU ?_
      refine B7 ?_
      refine B7 ?_
      refine BD ?_
      refine A2 ?_
      refine AA ?_
      refine BA ?_
      refine AB ?_
      refine AE ?_
      refine AY (k + 1) (by omega) (by omega) ?_ selZ
      rw [t1, t2]
      simp only [Bool.false_or, decide_eq_true y1, decide_eq_false y2]
      exact covZ
   ·cases B with
    | true =>
     refine BB (.q 0 (.q 1 (.q 2 (.q 3 (.q 4 (.q 5 (.q 6 (.q 7 (.q 8 (.p 9 (.p 10 (.p 11 (.p 12 (.p 13 (.l 14 .b (.l 15 .b .nil)))))))))))))))) [] rfl (by kernel_rfl) Sel.nil ?_
     refine AR ?_
     refine AR ?_
     refine AR ?_
     refine AV ?_
     refine AQ ?_
     refine D8 ?_
     refine BQ ?_
     refine AR ?_
     refine AR ?_
     refine C8 rfl rfl rfl rfl ?_
     refine C8 rfl rfl rfl rfl ?_
     refine C8 rfl rfl rfl rfl ?_
     refine C8 rfl rfl rfl rfl ?_
     refine EQ ?_
     refine B7 ?_
     refine B7 ?_
     refine BD ?_
     refine A2 ?_
     refine AA ?_
     refine BA ?_
     refine AB ?_
     refine AE ?_
     refine AY (k + 1) (by omega) (by omega) ?_ selZ
     rw [t1, t2]
     simp only [Bool.true_or, Bool.false_or, decide_eq_false y1]
     exact covZ
    | false =>
     by_cases y2 : v = vtx d d.d d.e
     ·refine BB (.q 0 (.q 1 (.q 2 (.q 3 (.q 4 (.q 5 (.q 6 (.q 7 (.q 8 (.p 9 (.p 10 (.p 11 (.p 12 (.p 13 (.l 14 .b (.l 15 .b .nil)))))))))))))))) [] rfl (by kernel_rfl) Sel.nil ?_
      refine AR ?_
      refine AR ?_
      refine AR ?_
      refine AV ?_
      refine AQ ?_
      refine D8 ?_
      refine BQ ?_
      refine AR ?_
      refine AR ?_
      refine D4 ?_
      refine D6 ?_
      refine D5 ?_
      refine HE ?_
      refine DU ?_
      refine B7 ?_
      refine B7 ?_
      refine BD ?_
      refine A2 ?_
      refine AA ?_
      refine BA ?_
      refine AB ?_
      refine AE ?_
      refine AY (k + 1) (by omega) (by omega) ?_ selZ
      rw [t1, t2]
      simp only [Bool.false_or, decide_eq_false y1, decide_eq_true y2]
      exact covZ
     ·refine BB (.q 0 (.q 1 (.q 2 (.q 3 (.q 4 (.q 5 (.q 6 (.q 7 (.q 8 (.p 9 (.p 10 (.p 11 (.p 12 (.p 13 (.l 14 .b (.l 15 .b .nil)))))))))))))))) [] rfl (by kernel_rfl) Sel.nil ?_
      refine AR ?_
      refine AR ?_
      refine AR ?_
      refine AV ?_
      refine AQ ?_
      refine D8 ?_
      refine BQ ?_
      refine AR ?_
      refine AR ?_
      refine D4 ?_
      refine D6 ?_
      refine D5 ?_
      refine GF ?_
      refine DU ?_
      refine B7 ?_
      refine B7 ?_
      refine BD ?_
      refine A2 ?_
      refine AA ?_
      refine BA ?_
      refine AB ?_
      refine AE ?_
      refine AY (k + 1) (by omega) (by omega) ?_ selZ
      rw [t1, t2]
      simp only [Bool.false_or, decide_eq_false y1, decide_eq_false y2]
      exact covZ
 ·have hke : k = side.length := by omega
  subst hke
  rw [List.take_length]
  refine AC ?_
  refine AA ?_
  refine A0 ?_
  refine AE ?_
  refine AC ?_
  refine AN rfl ?_
  refine A7 rfl ?_
  refine AC ?_
  refine AA ?_
  refine AS ?_
  refine AS ?_
  refine AB ?_
  refine AZ hC rfl rfl rdZ rfl rfl ?_
  rintro _ rfl
  have e1 : side.any (fun v => decide (v = vtx d d.s d.r)) = decide (vtx d d.s d.r ∈ side) := any_mem side _
  have e2 : side.any (fun v => decide (v = vtx d d.d d.e)) = decide (vtx d d.d d.e ∈ side) := any_mem side _
  rw [e1, e2]
  by_cases m1 : vtx d d.s d.r ∈ side
  ·by_cases m2 : vtx d d.d d.e ∈ side
   ·rw [if_neg (fun hh => hh.2 m2), decide_eq_true m1, decide_eq_true m2]
    refine AB ?_
    refine AP ?_
    refine AP ?_
    refine AD ?_
    refine AD ?_
    refine AE ?_
    refine AC ?_
    refine AC ?_
    refine AA ?_
    refine AB ?_
    refine A8 ?_
    refine AB ?_
    refine AB ?_
    refine AJ ?_
    refine AE ?_
    refine AM rfl ?_
    refine AC ?_
    refine AA ?_
    refine AB ?_
    refine CP ?_
    refine AB ?_
    refine AB ?_
    refine CP ?_
    refine AK ?_
    refine AB ?_
    refine AZ awake55_spec rfl rfl rdZ rfl rfl ?_
    rintro _ rfl
    refine AK ?_
    refine AD ?_
    refine AE ?_
    exact AI (res1 rfl rfl) rsubZ selZ ⟨rfl, rfl⟩
   ·rw [if_pos ⟨m1, m2⟩, decide_eq_true m1, decide_eq_false m2]
    refine AB ?_
    refine AP ?_
    refine AP ?_
    refine AD ?_
    refine AD ?_
    refine AE ?_
    refine AC ?_
    refine AC ?_
    refine AA ?_
    refine AB ?_
    refine A8 ?_
    refine AB ?_
    refine AB ?_
    refine AJ ?_
    refine AE ?_
    refine AN rfl ?_
    refine AL ?_
    refine AC ?_
    refine AA ?_
    refine AB ?_
    refine CP ?_
    refine AB ?_
    refine AB ?_
    refine AB ?_
    refine CP ?_
    refine AK ?_
    refine AB ?_
    refine AZ awake55_spec rfl rfl rdZ rfl rfl ?_
    rintro _ rfl
    refine AK ?_
    refine AD ?_
    refine AE ?_
    exact AI (res1 rfl rfl) rsubZ selZ ⟨rfl, rfl⟩
  ·rw [if_neg (fun hh => m1 hh.1), decide_eq_false m1]
   refine AB ?_
   refine AP ?_
   refine AP ?_
   refine AD ?_
   refine AD ?_
   refine AE ?_
   refine AC ?_
   refine AC ?_
   refine AA ?_
   refine AB ?_
   refine A8 ?_
   refine AB ?_
   refine AF rfl rfl rfl ?_
   refine AK ?_
   refine AE ?_
   refine AM rfl ?_
   refine AC ?_
   refine AA ?_
   refine AB ?_
   refine CP ?_
   refine AB ?_
   refine AB ?_
   refine CP ?_
   refine AK ?_
   refine AB ?_
   refine AZ awake55_spec rfl rfl rdZ rfl rfl ?_
   rintro _ rfl
   refine AK ?_
   refine AD ?_
   refine AE ?_
   exact AI (res1 rfl rfl) rsubZ selZ ⟨rfl, rfl⟩
end Go.Proofs.YtknfhiolenobaaaGreat
/- The rows: each law, for every input. -/
namespace Go.Proofs.YtknfhiolenobaaaGreat
open Go.Eng Go.Step
set_option maxRecDepth 100000
set_option maxHeartbeats 4000000
open Go.ChangeShapes Go.WideShapes Go.ChangeAt Go.RowKit

set_option maxRecDepth 100000 in
theorem certificateNetworks_lifted (os : Os) (started : os.Started) (H : Type) (enc : TypeId × Value → H) :
  ReturnsInHanded {} Tryz.checked os 4 .any (Rows.certificateNetworksSpec.pre6 enc Tryz.prog Tryz.f4 Rows.certificateNetworksRow.domain false) (Rows.certificateNetworksSpec.post enc Tryz.prog Tryz.f4 false true false false) := by
 refine returnsInHanded_of_change (C := Tryz.checked) Tryz.own started (by kernel_rfl) Tryz.func4
  (ChangeSpec.witness6 (enc := enc) (C := Tryz.checked) false ⟨#[], #[.agg #[.slice none 0 0, .slice none 0 0, .slice none 0 0, .slice none 0 0], .agg #[.int .i64 0, .int .i64 0, .int .i64 0, .int .i64 0, .int .i64 0], .slice none 0 0], []⟩ 8 (by kernel_rfl) (by kernel_rfl) (by kernel_rfl) (by kernel_rfl)) ?_
 intro W base args ds gs before hval0 hW hcnd _
 have hval : ∀ (j : Nat) t v, Tryz.f4.params[j]? = some t → args[j]? = some v → Value.okWide Tryz.prog W .any base t v := hval0
 have hW' := hW
 obtain ⟨p, q, hA0, hV, rfl, hfz, hnd⟩ := hW
 have hA : DataW.TrodAll enc Tryz.prog W 0 (fun _ => true) true Tryz.f4.params.toList args.toList ds p := hA0
 rw [Tryz.params4] at hA hval
 obtain ⟨v0, vs0, d0, ds0, p0, q0, hargs, rfl, rfl, h0, r0⟩ := trodAll_cons hA
 obtain ⟨v1, vs1, d1, ds1, p1, q1, rfl, rfl, rfl, h1, r1⟩ := trodAll_cons r0
 obtain ⟨v2, vs2, d2, ds2, p2, q2, rfl, rfl, rfl, h2, r2⟩ := trodAll_cons r1
 obtain ⟨rfl, rfl, rfl⟩ := trodAll_nil r2
 obtain rfl : args = #[v0, v1, v2] := by cases args; simp_all
 obtain ⟨rfl, rfl⟩ := trodVars_none hV
 have lt0 : ∀ x ∈ p0, x.block < W.heap.size := by obtain ⟨m, hm⟩ := h0; exact DataW.trod_lt m _ _ _ hm
 have lt1 : ∀ x ∈ p1, x.block < W.heap.size := by obtain ⟨m, hm⟩ := h1; exact DataW.trod_lt m _ _ _ hm
 have lt2 : ∀ x ∈ p2, x.block < W.heap.size := by obtain ⟨m, hm⟩ := h2; exact DataW.trod_lt m _ _ _ hm
 have hlaw : Ans Tryz.prog (fv 4) [v0, v1, v2] [heapPH W] (fun v => v = .bool true) := by
  obtain ⟨pq, pc, pb, ph, kq, kc, kb, kh, qs, cs, bs, hs, rfl, hT⟩ := tables_of (hval 0 _ v0 rfl rfl) (RdT.of h0)
  obtain ⟨d, rfl, id0, id1, id2, id3, id4⟩ := demand_of (hval 1 _ v1 rfl rfl) (RdT.of h1)
  obtain ⟨side, hside, _, lside⟩ := intsV_of (hval 2 _ v2 rfl rfl) (RdT.of h2)
  obtain ⟨pw, kw, rfl, _⟩ := hside.val Eng.encI_len
  exact (networks_law hT d _ pw kw side hside lside).rsub (fun _ h => by simpa using h)
 refine (law_calls Tryz.func4 rfl rfl hlaw).mono fun e W' ⟨he, bel⟩ => ?_
 subst he
 exact ⟨_, rfl, _, _, _, [], _, [], hW', trodAll_mk1 (shut_bool Tryz.underlying4 _), (trodAll_cons_mk (Below.trod Tryz.laidOut (by kernel_rfl) (of_decide_eq_true (by kernel_rfl)) h0 bel lt0) (trodAll_cons_mk (Below.trod Tryz.laidOut (by kernel_rfl) (of_decide_eq_true (by kernel_rfl)) h1 bel lt1) (trodAll_cons_mk (Below.trod Tryz.laidOut (by kernel_rfl) (of_decide_eq_true (by kernel_rfl)) h2 bel lt2) trodAll_mk0))), rfl, bel.frame _, fun h => by cases h⟩
theorem certificateNetworks_holds : Rows.CertificateNetworksSaid :=
 OpenClaim.holds_of_wide 4 Tryz.f4 rfl rfl rfl rfl rfl rfl rfl ⟨rfl, rfl, rfl, rfl, rfl⟩ rfl rfl rfl rfl rfl (by kernel_rfl) Tryz.func4 (by kernel_rfl)
  (of_decide_eq_true (by kernel_rfl)) (by unfold Func.isWrapper; first | (rw [if_pos (by decide +kernel)]; kernel_rfl) | (rw [if_neg (by decide +kernel)]; exact ⟨rfl, rfl⟩))
  (fun os started H enc _ => certificateNetworks_lifted os started H enc)
end Go.Proofs.YtknfhiolenobaaaGreat
