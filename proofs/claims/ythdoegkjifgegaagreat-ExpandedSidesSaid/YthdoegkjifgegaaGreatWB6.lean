/- Texts of this proof, one after the other; no conditions. -/
import Derived.Test.YthdoegkjifgegaaGreatRows
import Derived.Test.YthdoegkjifgegaaGreatWB5
import Derived.Test.YthdoegkjifgegaaGreatWB3
import Derived.Test.YthdoegkjifgegaaGreatWB2
set_option linter.all false
/- Tables: checked; booked times. -/
namespace Go.Proofs.YthdoegkjifgegaaGreat
open Go.Eng Go.Step
set_option maxRecDepth 100000
set_option maxHeartbeats 4000000

structure TbAt (ρ τ σ υ : PH) (pq pc pb ph : Option Addr) (kq kc kb kh : Nat) (qs : List Int) (cs : List Ct) (bs : List Bk) (hs : List Hd) : Prop where
 hq : IntsAt ρ (.slice pq qs.length kq) qs
 hc : CtAt τ (.slice pc cs.length kc) cs
 hcap : cs.length ≤ kc
 lq : qs.length ≤ 9223372036854775807
 lc : cs.length ≤ 9223372036854775807
 hb : BkAt σ (.slice pb bs.length kb) bs
 lb : bs.length ≤ 9223372036854775807
 hh : HdAt υ (.slice ph hs.length kh) hs
 lh : hs.length ≤ 9223372036854775807
theorem TbAt.rq {ρ τ σ υ : PH} {pq pc pb ph : Option Addr} {kq kc kb kh : Nat} {qs : List Int} {cs : List Ct} {bs : List Bk} {hs : List Hd} (hT : TbAt ρ τ σ υ pq pc pb ph kq kc kb kh qs cs bs hs) : RowsE Eng.encI 1 ρ pq qs := by
 obtain ⟨_, _, e, h⟩ := hT.hq.val Eng.encI_len
 simp only [Value.slice.injEq] at e
 rw [e.1]; exact h
theorem TbAt.rc {ρ τ σ υ : PH} {pq pc pb ph : Option Addr} {kq kc kb kh : Nat} {qs : List Int} {cs : List Ct} {bs : List Bk} {hs : List Hd} (hT : TbAt ρ τ σ υ pq pc pb ph kq kc kb kh qs cs bs hs) : RowsE encC 7 τ pc cs := by
 obtain ⟨_, _, e, h⟩ := hT.hc.val encC_len
 simp only [Value.slice.injEq] at e
 rw [e.1]; exact h
theorem TbAt.rh {ρ τ σ υ : PH} {pq pc pb ph : Option Addr} {kq kc kb kh : Nat} {qs : List Int} {cs : List Ct} {bs : List Bk} {hs : List Hd} (hT : TbAt ρ τ σ υ pq pc pb ph kq kc kb kh qs cs bs hs) : RowsE encH 5 υ ph hs := by
 obtain ⟨_, _, e, h⟩ := hT.hh.val encH_len
 simp only [Value.slice.injEq] at e
 rw [e.1]; exact h
set_option maxHeartbeats 16000000 in
theorem chkTab_spec {ρ τ σ υ : PH} {pq pc pb ph : Option Addr} {kq kc kb kh : Nat} {qs : List Int} {cs : List Ct} {bs : List Bk} {hs : List Hd} (hT : TbAt ρ τ σ υ pq pc pb ph kq kc kb kh qs cs bs hs) :
  Ans Tryz.prog (fv 52) [.agg #[.slice pq qs.length kq, .slice pc cs.length kc, .slice pb bs.length kb, .slice ph hs.length kh]] [ρ, τ, σ, υ] (fun r => r = int (chkT qs cs bs hs)) := by
 refine spec_in (cap := []) Tryz.func52 rfl rfl Tryz.ntmps52 rfl envZ (fun N β => ?_)
 refine AC ?_
 refine AA ?_
 refine BJ (BN rfl) rfl rfl rfl ?_
 rintro _ _ ⟨b1, rfl, rfl⟩
 refine AS (ρ := sng b1 _) takeZ ?_
 have ct : RdN (sng b1 (.cells #[.slice pq qs.length kq, .slice pc cs.length kc, .slice pb bs.length kb, .slice ph hs.length kh] 29 (0, 0))) b1 0 [.slice pq qs.length kq, .slice pc cs.length kc, .slice pb bs.length kb, .slice ph hs.length kh] := rdN_sng (vs := [.slice pq qs.length kq, .slice pc cs.length kc, .slice pb bs.length kb, .slice ph hs.length kh])
 have ct0 : rdc (sng b1 (.cells #[.slice pq qs.length kq, .slice pc cs.length kc, .slice pb bs.length kb, .slice ph hs.length kh] 29 (0, 0))) b1 0 = some (.slice pq qs.length kq) := by rw [rdc_sng]; rfl
 have ct1 : rdc (sng b1 (.cells #[.slice pq qs.length kq, .slice pc cs.length kc, .slice pb bs.length kb, .slice ph hs.length kh] 29 (0, 0))) b1 1 = some (.slice pc cs.length kc) := by rw [rdc_sng]; rfl
 have ct2 : rdc (sng b1 (.cells #[.slice pq qs.length kq, .slice pc cs.length kc, .slice pb bs.length kb, .slice ph hs.length kh] 29 (0, 0))) b1 2 = some (.slice pb bs.length kb) := by rw [rdc_sng]; rfl
 have ct3 : rdc (sng b1 (.cells #[.slice pq qs.length kq, .slice pc cs.length kc, .slice pb bs.length kb, .slice ph hs.length kh] 29 (0, 0))) b1 3 = some (.slice ph hs.length kh) := by rw [rdc_sng]; rfl
 have ctp : RdP (sng b1 (.cells #[.slice pq qs.length kq, .slice pc cs.length kc, .slice pb bs.length kb, .slice ph hs.length kh] 29 (0, 0))) b1 0 [.slice pq qs.length kq, .slice pc cs.length kc] := rdP_sng (xs := [.slice pq qs.length kq, .slice pc cs.length kc, .slice pb bs.length kb, .slice ph hs.length kh]) rfl
 refine AD ?_
 refine AE ?_
 refine AC ?_
 refine AC ?_
 refine AA ?_
 refine AH ?_
 refine AT ?_
 refine A6 (planCheck_spec ρ τ pq pc kq kc qs cs hT.hq hT.hc hT.hcap hT.lq hT.lc) rfl rfl rdZ rfl rfl ?_
 rintro _ rfl
 unfold chkT
 by_cases h1 : chkPl qs cs = 0
 rotate_left
 ·rw [if_pos h1]
  generalize chkPl qs cs = z at h1
  refine AD ?_
  refine AE ?_
  refine AC ?_
  refine AA ?_
  refine AB ?_
  refine CK ?_
  refine AE ?_
  refine AO rfl ?_
  refine AC ?_
  refine AA ?_
  refine AB ?_
  refine AD ?_
  refine AE ?_
  exact AI (res1 rfl rfl) rsubZ selZ ⟨rfl, rfl⟩
 rw [if_neg (fun h => h h1), h1]
 refine AD ?_
 refine AE ?_
 refine AC ?_
 refine AA ?_
 refine AB ?_
 refine BI ?_
 refine AE ?_
 refine AN rfl ?_
 refine AL ?_
 refine AC ?_
 refine AC ?_
 refine AA ?_
 refine AH ?_
 refine AT ?_
 refine AH ?_
 refine AF ?_
 refine A6 (bkCheck_spec ρ τ σ pq pc kq kc qs cs _ bs hT.hq hT.hc hT.hcap hT.lq hT.lc hT.hb hT.lb) rfl rfl rdZ rfl rfl ?_
 rintro _ rfl
 by_cases h2 : chkB qs cs bs = 0
 rotate_left
 ·rw [if_pos h2]
  generalize chkB qs cs bs = z at h2
  refine AD ?_
  refine AE ?_
  refine AC ?_
  refine AA ?_
  refine AB ?_
  refine CK ?_
  refine AE ?_
  refine AO rfl ?_
  refine AC ?_
  refine AA ?_
  refine AB ?_
  refine AD ?_
  refine AE ?_
  exact AI (res1 rfl rfl) rsubZ selZ ⟨rfl, rfl⟩
 rw [if_neg (fun h => h h2), h2]
 refine AD ?_
 refine AE ?_
 refine AC ?_
 refine AA ?_
 refine AB ?_
 refine BI ?_
 refine AE ?_
 refine AN rfl ?_
 refine AL ?_
 refine AC ?_
 refine AA ?_
 refine AH ?_
 refine AT ?_
 refine AH ?_
 refine AF ?_
 refine A6 (check28_spec ρ τ υ pq pc kq kc qs cs _ hs hT.hq hT.hc hT.hcap hT.lq hT.lc hT.hh hT.lh) rfl rfl rdZ rfl rfl ?_
 rintro _ rfl
 refine AD ?_
 refine AE ?_
 exact AI (res1 rfl rfl) rsubZ selZ ⟨rfl, rfl⟩
set_option maxHeartbeats 16000000 in
theorem refChkTab_spec {ρ τ σ υ : PH} {pq pc pb ph : Option Addr} {kq kc kb kh : Nat} {qs : List Int} {cs : List Ct} {bs : List Bk} {hs : List Hd} (hT : TbAt ρ τ σ υ pq pc pb ph kq kc kb kh qs cs bs hs) :
  Ans Tryz.prog (fv 85) [.agg #[.slice pq qs.length kq, .slice pc cs.length kc, .slice pb bs.length kb, .slice ph hs.length kh]] [ρ, τ, σ, υ] (fun r => r = int (chkT qs cs bs hs)) := by
 refine spec_in (cap := []) Tryz.func85 rfl rfl Tryz.ntmps85 rfl envZ (fun N β => ?_)
 refine AC ?_
 refine AA ?_
 refine BJ (BN rfl) rfl rfl rfl ?_
 rintro _ _ ⟨b1, rfl, rfl⟩
 refine AS (ρ := sng b1 _) takeZ ?_
 have ct : RdN (sng b1 (.cells #[.slice pq qs.length kq, .slice pc cs.length kc, .slice pb bs.length kb, .slice ph hs.length kh] 29 (0, 0))) b1 0 [.slice pq qs.length kq, .slice pc cs.length kc, .slice pb bs.length kb, .slice ph hs.length kh] := rdN_sng (vs := [.slice pq qs.length kq, .slice pc cs.length kc, .slice pb bs.length kb, .slice ph hs.length kh])
 have ct0 : rdc (sng b1 (.cells #[.slice pq qs.length kq, .slice pc cs.length kc, .slice pb bs.length kb, .slice ph hs.length kh] 29 (0, 0))) b1 0 = some (.slice pq qs.length kq) := by rw [rdc_sng]; rfl
 have ct1 : rdc (sng b1 (.cells #[.slice pq qs.length kq, .slice pc cs.length kc, .slice pb bs.length kb, .slice ph hs.length kh] 29 (0, 0))) b1 1 = some (.slice pc cs.length kc) := by rw [rdc_sng]; rfl
 have ct2 : rdc (sng b1 (.cells #[.slice pq qs.length kq, .slice pc cs.length kc, .slice pb bs.length kb, .slice ph hs.length kh] 29 (0, 0))) b1 2 = some (.slice pb bs.length kb) := by rw [rdc_sng]; rfl
 have ct3 : rdc (sng b1 (.cells #[.slice pq qs.length kq, .slice pc cs.length kc, .slice pb bs.length kb, .slice ph hs.length kh] 29 (0, 0))) b1 3 = some (.slice ph hs.length kh) := by rw [rdc_sng]; rfl
 have ctp : RdP (sng b1 (.cells #[.slice pq qs.length kq, .slice pc cs.length kc, .slice pb bs.length kb, .slice ph hs.length kh] 29 (0, 0))) b1 0 [.slice pq qs.length kq, .slice pc cs.length kc] := rdP_sng (xs := [.slice pq qs.length kq, .slice pc cs.length kc, .slice pb bs.length kb, .slice ph hs.length kh]) rfl
 refine AD ?_
 refine AE ?_
 refine AC ?_
 refine AC ?_
 refine AA ?_
 refine AH ?_
 refine AT ?_
 refine A6 (refPlanCheck_spec ρ τ pq pc kq kc qs cs hT.hq hT.hc hT.lq hT.lc) rfl rfl rdZ rfl rfl ?_
 rintro _ rfl
 unfold chkT
 by_cases h1 : chkPl qs cs = 0
 rotate_left
 ·rw [if_pos h1]
  generalize chkPl qs cs = z at h1
  refine AD ?_
  refine AE ?_
  refine AC ?_
  refine AA ?_
  refine AB ?_
  refine CK ?_
  refine AE ?_
  refine AO rfl ?_
  refine AC ?_
  refine AA ?_
  refine AB ?_
  refine AD ?_
  refine AE ?_
  exact AI (res1 rfl rfl) rsubZ selZ ⟨rfl, rfl⟩
 rw [if_neg (fun h => h h1), h1]
 refine AD ?_
 refine AE ?_
 refine AC ?_
 refine AA ?_
 refine AB ?_
 refine BI ?_
 refine AE ?_
 refine AN rfl ?_
 refine AL ?_
 refine AC ?_
 refine AC ?_
 refine AA ?_
 refine AH ?_
 refine AT ?_
 refine AH ?_
 refine AF ?_
 refine A6 (refBkCheck_spec ρ τ σ pq pc kq kc qs cs _ bs hT.hq hT.hc hT.hcap hT.lq hT.lc hT.hb hT.lb) rfl rfl rdZ rfl rfl ?_
 rintro _ rfl
 by_cases h2 : chkB qs cs bs = 0
 rotate_left
 ·rw [if_pos h2]
  generalize chkB qs cs bs = z at h2
  refine AD ?_
  refine AE ?_
  refine AC ?_
  refine AA ?_
  refine AB ?_
  refine CK ?_
  refine AE ?_
  refine AO rfl ?_
  refine AC ?_
  refine AA ?_
  refine AB ?_
  refine AD ?_
  refine AE ?_
  exact AI (res1 rfl rfl) rsubZ selZ ⟨rfl, rfl⟩
 rw [if_neg (fun h => h h2), h2]
 refine AD ?_
 refine AE ?_
 refine AC ?_
 refine AA ?_
 refine AB ?_
 refine BI ?_
 refine AE ?_
 refine AN rfl ?_
 refine AL ?_
 refine AC ?_
 refine AA ?_
 refine AH ?_
 refine AT ?_
 refine AH ?_
 refine AF ?_
 refine A6 (refCheck28_spec ρ τ υ pq pc kq kc qs cs _ hs hT.hq hT.hc hT.lq hT.lc hT.hh hT.lh) rfl rfl rdZ rfl rfl ?_
 rintro _ rfl
 refine AD ?_
 refine AE ?_
 exact AI (res1 rfl rfl) rsubZ selZ ⟨rfl, rfl⟩
set_option maxHeartbeats 16000000 in
theorem busy_spec (ρ : PH) (v : Value) (l : List Bk) (c : Int) (hv : BkAt ρ v l) (hl : l.length ≤ 1000) :
  Makes Tryz.prog (fv 73) [v, int c] [ρ] (fun r σ => OwnS 61 2 r (busyL l c).length ((busyL l c).flatMap encS) σ) := by
 obtain ⟨q, cc, rfl, hr⟩ := hv.val encB_len
 refine spec_in (cap := []) Tryz.func73 rfl rfl Tryz.ntmps73 rfl envZ (fun N β => ?_)
 refine CG ?_
 refine AC ?_
 refine AA ?_
 refine AD ?_
 refine AE ?_
 refine AC ?_
 refine AA ?_
 refine AD ?_
 refine AE ?_
 refine AC ?_
 refine AC ?_
 refine AA ?_
 refine AB ?_
 refine AU ?_
 refine AB ?_
 refine AE ?_
 refine AP ?_
 refine BC [1, 8, 9] (X := Nat × (Value × PH)) (0, (.slice none 0 0, emp)) (fun x => x.1 ≤ l.length ∧ OwnS 61 2 x.2.1 (busyL (l.take x.1) c).length ((busyL (l.take x.1) c).flatMap encS) x.2.2) (fun x => [(10, int x.1), (5, x.2.1)]) (fun x => [x.2.2]) (fun x => l.length - x.1) pickZ ⟨by dsimp only; omega, OwnS.nil _ _⟩ covZ selZ ?_
 rintro ⟨k, u, σ⟩ ⟨hk, hO⟩
 dsimp only at hk hO ⊢
 by_cases hlt : k < l.length
 ·have hx := List.getElem?_eq_getElem hlt
  have hn := busyL_next c hx
  have hrl := busyL_len (l.take k) c
  rw [List.length_take, Nat.min_eq_left hk] at hrl
  obtain ⟨b1, o1, rfl, hRd1, g0, g1, g2, g3⟩ := bkRow hr hx
  generalize l[k] = x at hRd1 g0 g1 g2 g3 hn
  by_cases hc : x.c = c
  rotate_left
  ·rw [if_neg hc, List.append_nil] at hn
   refine AC ?_
   refine AA ?_
   refine BB ?_
   refine AE ?_
   refine AC ?_
   refine AO rfl ?_
   refine AL ?_
   refine AC ?_
   refine AP ?_
   refine AC ?_
   refine AA ?_
   refine A8 ?_
   refine AT ?_
   refine A5 ?_; rintro _ _ ⟨b, rfl, rfl⟩
   refine A3 ?_; rintro _ _ ⟨rfl, rfl⟩
   refine AE ?_
   refine AC ?_
   refine AA ?_
   refine AH ?_
   refine AF ?_
   refine AB ?_
   refine CE ?_
   refine AE ?_
   refine AN rfl ?_
   refine AL ?_
   refine A0 ?_
   refine AA ?_
   refine A9 ?_
   refine AB ?_
   refine AE ?_
   exact AW (k + 1, (u, σ)) ⟨by dsimp only; omega, by dsimp only; rw [hn]; exact hO⟩ (by dsimp only; omega) covZ selZ
  ·rw [if_pos hc] at hn
   refine AC ?_
   refine AA ?_
   refine BB ?_
   refine AE ?_
   refine AC ?_
   refine AO rfl ?_
   refine AL ?_
   refine AC ?_
   refine AP ?_
   refine AC ?_
   refine AA ?_
   refine A8 ?_
   refine AT ?_
   refine A5 ?_; rintro _ _ ⟨b, rfl, rfl⟩
   refine A3 ?_; rintro _ _ ⟨rfl, rfl⟩
   refine AE ?_
   refine AC ?_
   refine AA ?_
   refine AH ?_
   refine AF ?_
   refine AB ?_
   refine CJ ?_
   refine AE ?_
   refine AO rfl ?_
   refine AA ?_
   refine AB ?_
   refine AH ?_
   refine AF ?_
   refine AH ?_
   refine AF ?_
   refine B6 ?_
   refine BA ?_; rintro _ _ ⟨b, rfl, rfl⟩
   refine BJ (BS (by_ := 16) (s := 2) (news := [int x.a, int x.b]) rfl rfl rfl rfl rfl rfl rfl hO takeZ (cells_own memZ) rfl (by (repeat (first | exact (fun v hv => absurd hv List.not_mem_nil) | (refine List.forall_mem_cons.2 ⟨?_, ?_⟩; (focus (first | exact rfl | assumption))))); first | done | fail) (by omega) (by simp only [maxLen]; omega) (by omega)) rfl rfl rfl ?_
   rintro u1 _ ⟨σ1, hO1, rfl⟩
   refine AD ?_
   refine AE ?_
   refine A0 ?_
   refine AA ?_
   refine A9 ?_
   refine AB ?_
   refine AE ?_
   refine AW (k + 1, (u1, σ1)) ⟨by dsimp only; omega, ?_⟩ (by dsimp only; omega) covZ selZ
   dsimp only
   rw [hn, List.length_append, List.flatMap_append]
   exact hO1
 ·have hke : k = l.length := by omega
  subst hke
  rw [List.take_length] at hO
  refine AC ?_
  refine AA ?_
  refine AY ?_
  refine AE ?_
  refine AC ?_
  refine AN rfl ?_
  refine A7 rfl ?_
  refine AC ?_
  refine AA ?_
  refine AB ?_
  refine AD ?_
  refine AE ?_
  exact AI (res1 rfl rfl) rsubZ selZ ⟨σ, hO, rfl⟩
set_option maxHeartbeats 16000000 in
theorem refBusy_spec (ρ : PH) (v : Value) (l : List Bk) (c : Int) (hv : BkAt ρ v l) (hl : l.length ≤ 1000) :
  Makes Tryz.prog (fv 118) [v, int c] [ρ] (fun r σ => OwnS 61 2 r (busyL l c).length ((busyL l c).flatMap encS) σ) := by
 obtain ⟨q, cc, rfl, hr⟩ := hv.val encB_len
 refine spec_in (cap := []) Tryz.func118 rfl rfl Tryz.ntmps118 rfl envZ (fun N β => ?_)
 refine CG ?_
 refine AC ?_
 refine AA ?_
 refine AD ?_
 refine AE ?_
 refine AC ?_
 refine AA ?_
 refine AD ?_
 refine AE ?_
 refine AC ?_
 refine AC ?_
 refine AA ?_
 refine AD ?_
 refine AE ?_
 refine AP ?_
 refine BC [0, 1] (X := Nat × (Value × PH)) (0, (.slice none 0 0, emp)) (fun x => x.1 ≤ l.length ∧ OwnS 61 2 x.2.1 (busyL (l.take x.1) c).length ((busyL (l.take x.1) c).flatMap encS) x.2.2) (fun x => [(6, int x.1), (5, x.2.1)]) (fun x => [x.2.2]) (fun x => l.length - x.1) pickZ ⟨by dsimp only; omega, OwnS.nil _ _⟩ covZ selZ ?_
 rintro ⟨k, u, σ⟩ ⟨hk, hO⟩
 dsimp only at hk hO ⊢
 by_cases hlt : k < l.length
 ·have hx := List.getElem?_eq_getElem hlt
  have hn := busyL_next c hx
  have hrl := busyL_len (l.take k) c
  rw [List.length_take, Nat.min_eq_left hk] at hrl
  obtain ⟨b1, o1, rfl, hRd1, g0, g1, g2, g3⟩ := bkRow hr hx
  generalize l[k] = x at hRd1 g0 g1 g2 g3 hn
  by_cases hc : x.c = c
  rotate_left
  ·rw [if_neg hc, List.append_nil] at hn
   refine AC ?_
   refine AC ?_
   refine AA ?_
   refine AB ?_
   refine AB ?_
   refine AU ?_
   refine BB ?_
   refine AE ?_
   refine AO rfl ?_
   refine AL ?_
   refine AC ?_
   refine AP ?_
   refine AC ?_
   refine AA ?_
   refine AB ?_
   refine AB ?_
   refine A8 ?_
   refine CO ?_
   refine AF ?_
   refine AB ?_
   refine CE ?_
   refine AE ?_
   refine AN rfl ?_
   refine AL ?_
   refine A0 ?_
   refine AA ?_
   refine AB ?_
   refine A9 ?_
   refine AD ?_
   refine AE ?_
   exact AW (k + 1, (u, σ)) ⟨by dsimp only; omega, by dsimp only; rw [hn]; exact hO⟩ (by dsimp only; omega) covZ selZ
  ·rw [if_pos hc] at hn
   refine AC ?_
   refine AC ?_
   refine AA ?_
   refine AB ?_
   refine AB ?_
   refine AU ?_
   refine BB ?_
   refine AE ?_
   refine AO rfl ?_
   refine AL ?_
   refine AC ?_
   refine AP ?_
   refine AC ?_
   refine AA ?_
   refine AB ?_
   refine AB ?_
   refine A8 ?_
   refine CO ?_
   refine AF ?_
   refine AB ?_
   refine CJ ?_
   refine AE ?_
   refine AO rfl ?_
   refine AZ (.q 0 (.q 1 (.q 2 (.q 3 (.q 4 (.q 5 (.q 6 (.q 7 (.q 8 (.q 9 (.q 10 (.q 11 (.l 12 .e (.l 13 .b (.l 14 .b .nil))))))))))))))) [] rfl (by kernel_rfl) Sel.nil ?_
   refine AK ?_
   refine AK ?_
   refine AK ?_
   refine BD ?_
   refine BX ?_
   refine AQ ?_
   refine AK ?_
   refine AK ?_
   refine BD ?_
   refine BX ?_
   refine AQ ?_
   refine B9 ?_
   refine BH ?_; rintro _ _ ⟨b, rfl, rfl⟩
   revert b; intro bn
   refine CF (a_b rfl (BS (by_ := 16) (s := 2) (news := [int x.a, int x.b]) rfl rfl rfl rfl rfl rfl rfl hO takeZ (cells_own memZ) rfl (by (repeat (first | exact (fun v hv => absurd hv List.not_mem_nil) | (refine List.forall_mem_cons.2 ⟨?_, ?_⟩; (focus (first | exact rfl | assumption))))); first | done | fail) (by omega) (by simp only [maxLen]; omega) (by omega)) rfl rfl rfl (fun _ _ _ w hw => hw.sel Sel.nil) ?_)
   rintro u1 _ ⟨σ1, hO1, rfl⟩
   refine C1 ?_
   refine A4 ?_
   refine A0 ?_
   refine AA ?_
   refine AB ?_
   refine A9 ?_
   refine AD ?_
   refine AE ?_
   refine AW (k + 1, (u1, σ1)) ⟨by dsimp only; omega, ?_⟩ (by dsimp only; omega) covZ selZ
   dsimp only
   rw [hn, List.length_append, List.flatMap_append]
   exact hO1
 ·have hke : k = l.length := by omega
  subst hke
  rw [List.take_length] at hO
  refine AC ?_
  refine AC ?_
  refine AA ?_
  refine AB ?_
  refine AB ?_
  refine AU ?_
  refine AY ?_
  refine AE ?_
  refine AN rfl ?_
  refine A7 rfl ?_
  refine AC ?_
  refine AA ?_
  refine AB ?_
  refine AD ?_
  refine AE ?_
  exact AI (res1 rfl rfl) rsubZ selZ ⟨σ, hO, rfl⟩
theorem any_take {α : Type} (p : α → Bool) {l : List α} {k : Nat} (h : k < l.length) : (l.take (k + 1)).any p = ((l.take k).any p || p l[k]) := by
 rw [List.take_succ_eq_append_getElem h, List.any_append]
 simp
end Go.Proofs.YthdoegkjifgegaaGreat
/- Demands, shipments, stocks. No program in sight. No conditions. -/
namespace Go.Step
structure Dm where
  s : Int
  d : Int
  v : Int
  r : Int
  e : Int
deriving DecidableEq
structure Sh where
  c : Int
  t : Int
  n : Int
deriving DecidableEq
def okDm (nq : Nat) (d : Dm) : Prop := (0 ≤ d.s ∧ d.s < nq) ∧ (0 ≤ d.d ∧ d.d < nq) ∧ d.s ≠ d.d ∧ (1 ≤ d.v ∧ d.v ≤ 1099511627776) ∧ (0 ≤ d.r ∧ d.r < d.e ∧ d.e ≤ 1099511627776 ∧ d.e - d.r ≤ 100)
instance (nq : Nat) (d : Dm) : Decidable (okDm nq d) := inferInstanceAs (Decidable (_ ∧ _))
def validT (qs : List Int) (cs : List Ct) (bs : List Bk) (hs : List Hd) (d : Dm) : Bool := decide (chkT qs cs bs hs = 0 ∧ okDm qs.length d)
def roomT (qs : List Int) (hs : List Hd) (d : Dm) (n t : Int) : Int := if n = d.s ∨ n = d.d then 1099511627776 else qs.getD n.toNat 0 - stored hs n t
end Go.Step
/- The table of stocks, change by change. No program in sight. No conditions. -/
namespace Go.Step
end Go.Step
/- Sets of integers as spans. No program in sight. No conditions. -/
namespace Go.Step
def okSp (x : Int × Int) : Prop := x.1 < x.2 ∧ -1152921504606846976 ≤ x.1 ∧ x.2 ≤ 1152921504606846976
instance (x : Int × Int) : Decidable (okSp x) := inferInstanceAs (Decidable (_ ∧ _))
def spE (l : List (Int × Int)) (i : Nat) : Int := match l[i]? with
  | some x => if ¬ okSp x then 2 else if 0 < i ∧ x.1 ≤ (l.getD (i - 1) x).2 then 9 else 0
  | none => 0
theorem spE_at {l : List (Int × Int)} {i : Nat} {x : Int × Int} (e : l[i]? = some x) : spE l i = if ¬ okSp x then 2 else if 0 < i ∧ x.1 ≤ (l.getD (i - 1) x).2 then 9 else 0 := by unfold spE; rw [e]
def chkI (l : List (Int × Int)) : Int := if 1000 < l.length then 4 else firstE (spE l) l.length
def inSp (t : Int) (x : Int × Int) : Bool := decide (x.1 ≤ t) && decide (t < x.2)
def hasI (l : List (Int × Int)) (t : Int) : Bool := decide (chkI l = 0) && l.any (inSp t)
end Go.Step
/- Sets of integers: checked, asked. -/
namespace Go.Proofs.YthdoegkjifgegaaGreat
open Go.Eng Go.Step
set_option maxRecDepth 100000
set_option maxHeartbeats 4000000

theorem ivValid_spec (x : Int × Int) : Ans Tryz.prog (fv 143) [.agg #[int x.1, int x.2]] [] (fun r => r = .bool (decide (okSp x))) := by
 refine spec_in (cap := []) Tryz.func143 rfl rfl Tryz.ntmps143 rfl envZ (fun N β => ?_)
 by_cases h1 : x.1 < x.2
 ·by_cases h2 : -1152921504606846976 ≤ x.1
  ·by_cases h3 : x.2 ≤ 1152921504606846976
   ·rw [decide_eq_true (show okSp x from ⟨h1, h2, h3⟩)]
    refine AC ?_
    refine AA ?_
    refine B8 ?_; rintro _ _ ⟨b, rfl, rfl⟩
    refine AD ?_
    refine AE ?_
    refine AC ?_
    refine AA ?_
    refine AH ?_
    refine AF ?_
    refine AH ?_
    refine AF ?_
    refine BB ?_
    refine AB ?_
    refine AH ?_
    refine AF ?_
    refine CD ?_
    refine AM ?_
    refine AB ?_
    refine AH ?_
    refine AF ?_
    refine CQ ?_
    refine AM ?_
    refine AD ?_
    refine AE ?_
    exact AI (res1 rfl rfl) rsubZ selZ ⟨rfl, rfl⟩
   ·rw [decide_eq_false (fun h : okSp x => h3 h.2.2)]
    refine AC ?_
    refine AA ?_
    refine B8 ?_; rintro _ _ ⟨b, rfl, rfl⟩
    refine AD ?_
    refine AE ?_
    refine AC ?_
    refine AA ?_
    refine AH ?_
    refine AF ?_
    refine AH ?_
    refine AF ?_
    refine BB ?_
    refine AB ?_
    refine AH ?_
    refine AF ?_
    refine CD ?_
    refine AM ?_
    refine AB ?_
    refine AH ?_
    refine AF ?_
    refine CR ?_
    refine AM ?_
    refine AD ?_
    refine AE ?_
    exact AI (res1 rfl rfl) rsubZ selZ ⟨rfl, rfl⟩
  ·rw [decide_eq_false (fun h : okSp x => h2 h.2.1)]
   refine AC ?_
   refine AA ?_
   refine B8 ?_; rintro _ _ ⟨b, rfl, rfl⟩
   refine AD ?_
   refine AE ?_
   refine AC ?_
   refine AA ?_
   refine AH ?_
   refine AF ?_
   refine AH ?_
   refine AF ?_
   refine BB ?_
   refine AB ?_
   refine AH ?_
   refine AF ?_
   refine BF ?_
   refine AM ?_
   refine AB ?_
   refine AG rfl rfl rfl ?_
   refine AG rfl rfl rfl ?_
   refine AG rfl rfl rfl ?_
   refine AJ ?_
   refine AD ?_
   refine AE ?_
   exact AI (res1 rfl rfl) rsubZ selZ ⟨rfl, rfl⟩
 ·rw [decide_eq_false (fun h : okSp x => h1 h.1)]
  refine AC ?_
  refine AA ?_
  refine B8 ?_; rintro _ _ ⟨b, rfl, rfl⟩
  refine AD ?_
  refine AE ?_
  refine AC ?_
  refine AA ?_
  refine AH ?_
  refine AF ?_
  refine AH ?_
  refine AF ?_
  refine AY ?_
  refine AB ?_
  refine AG rfl rfl rfl ?_
  refine AG rfl rfl rfl ?_
  refine AG rfl rfl rfl ?_
  refine AJ ?_
  refine AB ?_
  refine AG rfl rfl rfl ?_
  refine AG rfl rfl rfl ?_
  refine AG rfl rfl rfl ?_
  refine AJ ?_
  refine AD ?_
  refine AE ?_
  exact AI (res1 rfl rfl) rsubZ selZ ⟨rfl, rfl⟩
theorem refIvValid_spec (x : Int × Int) : Ans Tryz.prog (fv 95) [.agg #[int x.1, int x.2]] [] (fun r => r = .bool (decide (okSp x))) := by
 refine spec_in (cap := []) Tryz.func95 rfl rfl Tryz.ntmps95 rfl envZ (fun N β => ?_)
 by_cases h1 : x.1 < x.2
 ·by_cases h2 : -1152921504606846976 ≤ x.1
  ·by_cases h3 : x.2 ≤ 1152921504606846976
   ·rw [decide_eq_true (show okSp x from ⟨h1, h2, h3⟩)]
    refine AC ?_
    refine AA ?_
    refine B8 ?_; rintro _ _ ⟨b, rfl, rfl⟩
    refine AD ?_
    refine AE ?_
    refine AC ?_
    refine AA ?_
    refine AH ?_
    refine AF ?_
    refine AH ?_
    refine AF ?_
    refine BB ?_
    refine AB ?_
    refine AH ?_
    refine AF ?_
    refine CD ?_
    refine AM ?_
    refine AB ?_
    refine AH ?_
    refine AF ?_
    refine CQ ?_
    refine AM ?_
    refine AD ?_
    refine AE ?_
    exact AI (res1 rfl rfl) rsubZ selZ ⟨rfl, rfl⟩
   ·rw [decide_eq_false (fun h : okSp x => h3 h.2.2)]
    refine AC ?_
    refine AA ?_
    refine B8 ?_; rintro _ _ ⟨b, rfl, rfl⟩
    refine AD ?_
    refine AE ?_
    refine AC ?_
    refine AA ?_
    refine AH ?_
    refine AF ?_
    refine AH ?_
    refine AF ?_
    refine BB ?_
    refine AB ?_
    refine AH ?_
    refine AF ?_
    refine CD ?_
    refine AM ?_
    refine AB ?_
    refine AH ?_
    refine AF ?_
    refine CR ?_
    refine AM ?_
    refine AD ?_
    refine AE ?_
    exact AI (res1 rfl rfl) rsubZ selZ ⟨rfl, rfl⟩
  ·rw [decide_eq_false (fun h : okSp x => h2 h.2.1)]
   refine AC ?_
   refine AA ?_
   refine B8 ?_; rintro _ _ ⟨b, rfl, rfl⟩
   refine AD ?_
   refine AE ?_
   refine AC ?_
   refine AA ?_
   refine AH ?_
   refine AF ?_
   refine AH ?_
   refine AF ?_
   refine BB ?_
   refine AB ?_
   refine AH ?_
   refine AF ?_
   refine BF ?_
   refine AM ?_
   refine AB ?_
   refine AG rfl rfl rfl ?_
   refine AG rfl rfl rfl ?_
   refine AG rfl rfl rfl ?_
   refine AJ ?_
   refine AD ?_
   refine AE ?_
   exact AI (res1 rfl rfl) rsubZ selZ ⟨rfl, rfl⟩
 ·rw [decide_eq_false (fun h : okSp x => h1 h.1)]
  refine AC ?_
  refine AA ?_
  refine B8 ?_; rintro _ _ ⟨b, rfl, rfl⟩
  refine AD ?_
  refine AE ?_
  refine AC ?_
  refine AA ?_
  refine AH ?_
  refine AF ?_
  refine AH ?_
  refine AF ?_
  refine AY ?_
  refine AB ?_
  refine AG rfl rfl rfl ?_
  refine AG rfl rfl rfl ?_
  refine AG rfl rfl rfl ?_
  refine AJ ?_
  refine AB ?_
  refine AG rfl rfl rfl ?_
  refine AG rfl rfl rfl ?_
  refine AG rfl rfl rfl ?_
  refine AJ ?_
  refine AD ?_
  refine AE ?_
  exact AI (res1 rfl rfl) rsubZ selZ ⟨rfl, rfl⟩
set_option maxHeartbeats 16000000 in
theorem ivCheck_spec (ρ : PH) (v : Value) (l : List (Int × Int)) (hv : SpAt ρ v l) (hl : l.length ≤ 9223372036854775807) :
  Ans Tryz.prog (fv 121) [v] [ρ] (fun r => r = int (chkI l)) := by
 obtain ⟨q, c, rfl, hr⟩ := hv.val encS_len
 refine spec_in (cap := []) Tryz.func121 rfl rfl Tryz.ntmps121 rfl envZ (fun N β => ?_)
 unfold chkI
 by_cases hbig : 1000 < l.length
 ·rw [if_pos hbig]
  refine AC ?_
  refine AA ?_
  refine AD ?_
  refine AE ?_
  refine AC ?_
  refine AC ?_
  refine AA ?_
  refine AB ?_
  refine AU ?_
  refine CP ?_
  refine AE ?_
  refine AO rfl ?_
  refine AC ?_
  refine AA ?_
  refine AD ?_
  refine AE ?_
  exact AI (res1 rfl rfl) rsubZ selZ ⟨rfl, rfl⟩
 rw [if_neg hbig]
 refine AC ?_
 refine AA ?_
 refine AD ?_
 refine AE ?_
 refine AC ?_
 refine AC ?_
 refine AA ?_
 refine AB ?_
 refine AU ?_
 refine BU ?_
 refine AE ?_
 refine AN rfl ?_
 refine AL ?_
 refine AC ?_
 refine AC ?_
 refine AA ?_
 refine AB ?_
 refine AU ?_
 refine AB ?_
 refine AE ?_
 refine AP ?_
 refine BC [0, 8, 9] (0 : Nat) (fun k => k ≤ l.length ∧ firstE (spE l) k = 0) (fun k => [(10, int k)]) (fun _ => []) (fun k => l.length - k) pickZ ⟨by omega, rfl⟩ covZ selZ ?_
 rintro k ⟨hk, hI⟩
 by_cases hlt : k < l.length
 ·have hx := List.getElem?_eq_getElem hlt
  obtain ⟨b4, o4, rfl, hrd, g0, g1⟩ := spRow hr hx
  have hE := spE_at hx
  generalize l[k] = x at hrd g0 g1 hE
  refine AC ?_
  refine AA ?_
  refine BB ?_
  refine AE ?_
  refine AC ?_
  refine AO rfl ?_
  refine AL ?_
  refine AC ?_
  refine AP ?_
  refine AC ?_
  refine AA ?_
  refine AB ?_
  refine A8 ?_
  refine AT ?_
  refine A5 ?_; rintro _ _ ⟨b, rfl, rfl⟩
  refine AD ?_
  refine A3 ?_; rintro _ _ ⟨rfl, rfl⟩
  refine AE ?_
  refine AC ?_
  refine AC ?_
  refine AA ?_
  refine AT ?_
  revert b; intro b6
  refine A6 (ivValid_spec x) rfl rfl rdZ rfl rfl ?_
  rintro _ rfl
  by_cases hok : okSp x
  rotate_left
  ·rw [if_pos hok] at hE
   have hh := firstE_hit hI (by rw [hE]; decide) _ hlt
   rw [hh, hE, decide_eq_false hok]
   refine BE ?_
   refine AE ?_
   refine AO rfl ?_
   refine AC ?_
   refine AA ?_
   refine AD ?_
   refine AE ?_
   exact AI (res1 rfl rfl) rsubZ selZ ⟨rfl, rfl⟩
  rw [if_neg (fun h => h hok)] at hE
  rw [decide_eq_true hok]
  refine BE ?_
  refine AE ?_
  refine AN rfl ?_
  refine AL ?_
  refine AC ?_
  refine AZ (.q 0 (.q 1 (.q 2 (.q 3 (.q 4 (.q 5 (.q 6 (.q 7 (.q 8 (.q 9 (.q 10 (.q 11 (.q 12 .nil))))))))))))) [sng b6 _] rfl (by kernel_rfl) selZ ?_
  by_cases h0 : k = 0
  ·subst h0
   rw [if_neg (by omega)] at hE
   refine AK ?_
   refine DA ?_
   refine AK ?_
   refine AV rfl rfl rfl rfl rfl ?_
   refine AV rfl rfl rfl rfl rfl ?_
   refine AV rfl rfl rfl rfl rfl ?_
   refine AV rfl rfl rfl rfl rfl ?_
   refine AV rfl rfl rfl rfl rfl ?_
   refine AV rfl rfl rfl rfl rfl ?_
   refine AV rfl rfl rfl rfl rfl ?_
   refine AV rfl rfl rfl rfl rfl ?_
   refine AV rfl rfl rfl rfl rfl ?_
   refine BT ?_
   refine A4 ?_
   refine AN rfl ?_
   refine AL ?_
   refine A0 ?_
   refine AA ?_
   refine A9 ?_
   refine AB ?_
   refine AE ?_
   exact AW (0 + 1) ⟨by omega, firstE_ok hI hE⟩ (by omega) covZ selZ
  ·have hx' := List.getElem?_eq_getElem (show k - 1 < l.length by omega)
   obtain ⟨_, _, e, _, p0, p1⟩ := spRow hr hx'
   simp only [Option.some.injEq, Addr.mk.injEq, and_true] at e
   obtain ⟨rfl, rfl⟩ := e
   rw [List.getD_eq_getElem?_getD, hx', Option.getD_some] at hE
   generalize l[k - 1] = p at p0 p1 hE
   by_cases h9 : x.1 ≤ p.2
   ·rw [if_pos ⟨by omega, h9⟩] at hE
    have hh := firstE_hit hI (by rw [hE]; decide) _ hlt
    rw [hh, hE]
    refine AK ?_
    refine DK ?_
    refine AK ?_
    refine AX ?_
    refine AQ ?_
    refine AK ?_
    refine AK ?_
    refine BO ?_
    refine BD ?_
    refine BX ?_
    refine AQ ?_
    refine E8 ?_
    refine BR ?_
    refine A4 ?_
    refine AO rfl ?_
    refine AC ?_
    refine AA ?_
    refine AD ?_
    refine AE ?_
    exact AI (res1 rfl rfl) rsubZ selZ ⟨rfl, rfl⟩
   ·rw [if_neg (fun h => h9 h.2)] at hE
    refine AK ?_
    refine DK ?_
    refine AK ?_
    refine AX ?_
    refine AQ ?_
    refine AK ?_
    refine AK ?_
    refine BO ?_
    refine BD ?_
    refine BX ?_
    refine AQ ?_
    refine D6 ?_
    refine BR ?_
    refine A4 ?_
    refine AN rfl ?_
    refine AL ?_
    refine A0 ?_
    refine AA ?_
    refine A9 ?_
    refine AB ?_
    refine AE ?_
    exact AW (k + 1) ⟨by omega, firstE_ok hI hE⟩ (by omega) covZ selZ
 have hke : k = l.length := by omega
 subst hke
 rw [hI]
 refine AC ?_
 refine AA ?_
 refine AY ?_
 refine AE ?_
 refine AC ?_
 refine AN rfl ?_
 refine A7 rfl ?_
 refine AC ?_
 refine AA ?_
 refine AD ?_
 refine AE ?_
 exact AI (res1 rfl rfl) rsubZ selZ ⟨rfl, rfl⟩
set_option maxHeartbeats 16000000 in
theorem refIvCheck_spec (ρ : PH) (v : Value) (l : List (Int × Int)) (hv : SpAt ρ v l) (hl : l.length ≤ 9223372036854775807) :
  Ans Tryz.prog (fv 119) [v] [ρ] (fun r => r = int (chkI l)) := by
 obtain ⟨q, c, rfl, hr⟩ := hv.val encS_len
 refine spec_in (cap := []) Tryz.func119 rfl rfl Tryz.ntmps119 rfl envZ (fun N β => ?_)
 unfold chkI
 by_cases hbig : 1000 < l.length
 ·rw [if_pos hbig]
  refine AC ?_
  refine AA ?_
  refine AD ?_
  refine AE ?_
  refine AC ?_
  refine AC ?_
  refine AA ?_
  refine AB ?_
  refine AU ?_
  refine CP ?_
  refine AE ?_
  refine AO rfl ?_
  refine AC ?_
  refine AA ?_
  refine AD ?_
  refine AE ?_
  exact AI (res1 rfl rfl) rsubZ selZ ⟨rfl, rfl⟩
 rw [if_neg hbig]
 refine AC ?_
 refine AA ?_
 refine AD ?_
 refine AE ?_
 refine AC ?_
 refine AC ?_
 refine AA ?_
 refine AB ?_
 refine AU ?_
 refine BU ?_
 refine AE ?_
 refine AN rfl ?_
 refine AL ?_
 refine AC ?_
 refine AC ?_
 refine AA ?_
 refine AD ?_
 refine AE ?_
 refine AP ?_
 refine BC [0] (0 : Nat) (fun k => k ≤ l.length ∧ firstE (spE l) k = 0) (fun k => [(3, int k)]) (fun _ => []) (fun k => l.length - k) pickZ ⟨by omega, rfl⟩ covZ selZ ?_
 rintro k ⟨hk, hI⟩
 by_cases hlt : k < l.length
 ·have hx := List.getElem?_eq_getElem hlt
  obtain ⟨b4, o4, rfl, hrd, g0, g1⟩ := spRow hr hx
  have hE := spE_at hx
  generalize l[k] = x at hrd g0 g1 hE
  refine AC ?_
  refine AC ?_
  refine AA ?_
  refine AB ?_
  refine AB ?_
  refine AU ?_
  refine BB ?_
  refine AE ?_
  refine AO rfl ?_
  refine AL ?_
  refine AC ?_
  refine AP ?_
  refine AC ?_
  refine AC ?_
  refine AA ?_
  refine AB ?_
  refine AB ?_
  refine A8 ?_
  refine AT ?_
  refine A6 (refIvValid_spec x) rfl rfl rdZ rfl rfl ?_
  rintro _ rfl
  by_cases hok : okSp x
  rotate_left
  ·rw [if_pos hok] at hE
   have hh := firstE_hit hI (by rw [hE]; decide) _ hlt
   rw [hh, hE, decide_eq_false hok]
   refine BE ?_
   refine AE ?_
   refine AO rfl ?_
   refine AC ?_
   refine AA ?_
   refine AD ?_
   refine AE ?_
   exact AI (res1 rfl rfl) rsubZ selZ ⟨rfl, rfl⟩
  rw [if_neg (fun h => h hok)] at hE
  rw [decide_eq_true hok]
  refine BE ?_
  refine AE ?_
  refine AN rfl ?_
  refine AL ?_
  refine AC ?_
  refine AZ (.q 0 (.q 1 (.q 2 (.q 3 (.q 4 (.q 5 (.q 6 (.q 7 (.q 8 (.q 9 (.q 10 (.q 11 (.q 12 (.q 13 (.q 14 (.q 15 .nil)))))))))))))))) [] rfl (by kernel_rfl) selZ ?_
  by_cases h0 : k = 0
  ·subst h0
   rw [if_neg (by omega)] at hE
   refine AK ?_
   refine DA ?_
   refine AK ?_
   refine AV rfl rfl rfl rfl rfl ?_
   refine AV rfl rfl rfl rfl rfl ?_
   refine AV rfl rfl rfl rfl rfl ?_
   refine AV rfl rfl rfl rfl rfl ?_
   refine AV rfl rfl rfl rfl rfl ?_
   refine AV rfl rfl rfl rfl rfl ?_
   refine AV rfl rfl rfl rfl rfl ?_
   refine AV rfl rfl rfl rfl rfl ?_
   refine AV rfl rfl rfl rfl rfl ?_
   refine AV rfl rfl rfl rfl rfl ?_
   refine AV rfl rfl rfl rfl rfl ?_
   refine AV rfl rfl rfl rfl rfl ?_
   refine BT ?_
   refine A4 ?_
   refine AN rfl ?_
   refine AL ?_
   refine A0 ?_
   refine AA ?_
   refine AB ?_
   refine A9 ?_
   refine AD ?_
   refine AE ?_
   exact AW (0 + 1) ⟨by omega, firstE_ok hI hE⟩ (by omega) covZ selZ
  ·have hx' := List.getElem?_eq_getElem (show k - 1 < l.length by omega)
   obtain ⟨_, _, e, _, p0, p1⟩ := spRow hr hx'
   simp only [Option.some.injEq, Addr.mk.injEq, and_true] at e
   obtain ⟨rfl, rfl⟩ := e
   rw [List.getD_eq_getElem?_getD, hx', Option.getD_some] at hE
   generalize l[k - 1] = p at p0 p1 hE
   by_cases h9 : x.1 ≤ p.2
   ·rw [if_pos ⟨by omega, h9⟩] at hE
    have hh := firstE_hit hI (by rw [hE]; decide) _ hlt
    rw [hh, hE]
    refine AK ?_
    refine DK ?_
    refine AK ?_
    refine AK ?_
    refine AK ?_
    refine BD ?_
    refine BV ?_
    refine AQ ?_
    refine AK ?_
    refine AK ?_
    refine BO ?_
    refine BD ?_
    refine BX ?_
    refine AQ ?_
    refine E8 ?_
    refine BR ?_
    refine A4 ?_
    refine AO rfl ?_
    refine AC ?_
    refine AA ?_
    refine AD ?_
    refine AE ?_
    exact AI (res1 rfl rfl) rsubZ selZ ⟨rfl, rfl⟩
   ·rw [if_neg (fun h => h9 h.2)] at hE
    refine AK ?_
    refine DK ?_
    refine AK ?_
    refine AK ?_
    refine AK ?_
    refine BD ?_
    refine BV ?_
    refine AQ ?_
    refine AK ?_
    refine AK ?_
    refine BO ?_
    refine BD ?_
    refine BX ?_
    refine AQ ?_
    refine D6 ?_
    refine BR ?_
    refine A4 ?_
    refine AN rfl ?_
    refine AL ?_
    refine A0 ?_
    refine AA ?_
    refine AB ?_
    refine A9 ?_
    refine AD ?_
    refine AE ?_
    exact AW (k + 1) ⟨by omega, firstE_ok hI hE⟩ (by omega) covZ selZ
 have hke : k = l.length := by omega
 subst hke
 rw [hI]
 refine AC ?_
 refine AC ?_
 refine AA ?_
 refine AB ?_
 refine AB ?_
 refine AU ?_
 refine AY ?_
 refine AE ?_
 refine AN rfl ?_
 refine A7 rfl ?_
 refine AC ?_
 refine AA ?_
 refine AD ?_
 refine AE ?_
 exact AI (res1 rfl rfl) rsubZ selZ ⟨rfl, rfl⟩
set_option maxHeartbeats 16000000 in
theorem refHas_spec (ρ : PH) (v : Value) (l : List (Int × Int)) (t : Int) (hv : SpAt ρ v l) (hl : l.length ≤ 9223372036854775807) :
  Ans Tryz.prog (fv 88) [v, int t] [ρ] (fun r => r = .bool (hasI l t)) := by
 have hv2 := hv
 obtain ⟨q, c, rfl, hr⟩ := hv.val encS_len
 refine spec_in (cap := []) Tryz.func88 rfl rfl Tryz.ntmps88 rfl envZ (fun N β => ?_)
 refine AC ?_
 refine AA ?_
 refine AD ?_
 refine AE ?_
 refine AC ?_
 refine AC ?_
 refine AA ?_
 refine AB ?_
 refine A6 (refIvCheck_spec ρ _ l hv2 hl) rfl rfl rdZ rfl rfl ?_
 rintro _ rfl
 unfold hasI
 by_cases h0 : chkI l = 0
 rotate_left
 ·rw [decide_eq_false h0, Bool.false_and]
  generalize chkI l = z at h0
  refine CK ?_
  refine AE ?_
  refine AO rfl ?_
  refine AC ?_
  refine AA ?_
  refine AD ?_
  refine AE ?_
  exact AI (res1 rfl rfl) rsubZ selZ ⟨rfl, rfl⟩
 rw [decide_eq_true h0, Bool.true_and, h0]
 refine BI ?_
 refine AE ?_
 refine AN rfl ?_
 refine AL ?_
 refine AC ?_
 refine AC ?_
 refine AA ?_
 refine AD ?_
 refine AE ?_
 refine AP ?_
 refine BC [0, 1] (0 : Nat) (fun k => k ≤ l.length ∧ (l.take k).any (inSp t) = false) (fun k => [(5, int k)]) (fun _ => []) (fun k => l.length - k) pickZ ⟨by omega, by simp⟩ covZ selZ ?_
 rintro k ⟨hk, hI⟩
 by_cases hlt : k < l.length
 ·have hn := any_take (inSp t) hlt
  have hmem := List.getElem_mem hlt
  obtain ⟨b4, o4, rfl, hrd, g0, g1⟩ := spRow hr (List.getElem?_eq_getElem hlt)
  rw [hI, Bool.false_or] at hn
  generalize l[k] = x at hrd g0 g1 hn hmem
  by_cases h1 : x.1 ≤ t
  ·by_cases h2 : t < x.2
   ·have hall : l.any (inSp t) = true := List.any_eq_true.2 ⟨x, hmem, by simp [inSp, h1, h2]⟩
    rw [hall]
    refine AC ?_
    refine AC ?_
    refine AA ?_
    refine AB ?_
    refine AB ?_
    refine AU ?_
    refine BB ?_
    refine AE ?_
    refine AO rfl ?_
    refine AL ?_
    refine AC ?_
    refine AP ?_
    refine AC ?_
    refine AA ?_
    refine AB ?_
    refine AB ?_
    refine A8 ?_
    refine CO ?_
    refine AF ?_
    refine AB ?_
    refine CQ ?_
    refine AB ?_
    refine AB ?_
    refine AB ?_
    refine AB ?_
    refine A8 ?_
    refine CM ?_
    refine AF ?_
    refine BB ?_
    refine AM ?_
    refine AE ?_
    refine AO rfl ?_
    refine AC ?_
    refine AA ?_
    refine AD ?_
    refine AE ?_
    exact AI (res1 rfl rfl) rsubZ selZ ⟨rfl, rfl⟩
   ·rw [show inSp t x = false by simp [inSp, h2]] at hn
    refine AC ?_
    refine AC ?_
    refine AA ?_
    refine AB ?_
    refine AB ?_
    refine AU ?_
    refine BB ?_
    refine AE ?_
    refine AO rfl ?_
    refine AL ?_
    refine AC ?_
    refine AP ?_
    refine AC ?_
    refine AA ?_
    refine AB ?_
    refine AB ?_
    refine A8 ?_
    refine CO ?_
    refine AF ?_
    refine AB ?_
    refine CQ ?_
    refine AB ?_
    refine AB ?_
    refine AB ?_
    refine AB ?_
    refine A8 ?_
    refine CM ?_
    refine AF ?_
    refine AY ?_
    refine AM ?_
    refine AE ?_
    refine AN rfl ?_
    refine AL ?_
    refine A0 ?_
    refine AA ?_
    refine AB ?_
    refine A9 ?_
    refine AD ?_
    refine AE ?_
    exact AW (k + 1) ⟨by omega, hn⟩ (by omega) covZ selZ
  ·rw [show inSp t x = false by simp [inSp, h1]] at hn
   refine AC ?_
   refine AC ?_
   refine AA ?_
   refine AB ?_
   refine AB ?_
   refine AU ?_
   refine BB ?_
   refine AE ?_
   refine AO rfl ?_
   refine AL ?_
   refine AC ?_
   refine AP ?_
   refine AC ?_
   refine AA ?_
   refine AB ?_
   refine AB ?_
   refine A8 ?_
   refine CO ?_
   refine AF ?_
   refine AB ?_
   refine CR ?_
   refine AB ?_
   refine AG rfl rfl rfl ?_
   refine AG rfl rfl rfl ?_
   refine AG rfl rfl rfl ?_
   refine AG rfl rfl rfl ?_
   refine AG rfl rfl rfl ?_
   refine AG rfl rfl rfl ?_
   refine AG rfl rfl rfl ?_
   refine AJ ?_
   refine AE ?_
   refine AN rfl ?_
   refine AL ?_
   refine A0 ?_
   refine AA ?_
   refine AB ?_
   refine A9 ?_
   refine AD ?_
   refine AE ?_
   exact AW (k + 1) ⟨by omega, hn⟩ (by omega) covZ selZ
 have hke : k = l.length := by omega
 subst hke
 rw [List.take_length] at hI
 rw [hI]
 refine AC ?_
 refine AC ?_
 refine AA ?_
 refine AB ?_
 refine AB ?_
 refine AU ?_
 refine AY ?_
 refine AE ?_
 refine AN rfl ?_
 refine A7 rfl ?_
 refine AC ?_
 refine AA ?_
 refine AD ?_
 refine AE ?_
 exact AI (res1 rfl rfl) rsubZ selZ ⟨rfl, rfl⟩
end Go.Proofs.YthdoegkjifgegaaGreat
/- Demands: checked. -/
namespace Go.Proofs.YthdoegkjifgegaaGreat
open Go.Eng Go.Step
set_option maxRecDepth 100000
set_option maxHeartbeats 4000000

theorem chkPl_ct {qs : List Int} {cs : List Ct} (h : chkPl qs cs = 0) : cs.length ≤ 64 ∧ ∀ c ∈ cs, chkCt c = 0 ∧ c.f < qs.length ∧ c.t < qs.length := by
 unfold chkPl at h
 by_cases h1 : qs.length < 1 ∨ 16 < qs.length ∨ 64 < cs.length
 ·rw [if_pos h1] at h; omega
 rw [if_neg h1] at h
 by_cases h2 : firstE (quoE qs) qs.length = 0
 ·rw [if_neg (by simpa using h2)] at h
  refine ⟨by omega, fun c hc => ?_⟩
  obtain ⟨i, hi, rfl⟩ := List.getElem_of_mem hc
  have h3 := firstE_zero h i hi
  rw [ctE_at (List.getElem?_eq_getElem hi)] at h3
  by_cases h4 : chkCt cs[i] = 0
  ·rw [if_neg (by simpa using h4)] at h3
   by_cases h5 : (qs.length : Int) ≤ cs[i].f ∨ (qs.length : Int) ≤ cs[i].t
   ·rw [if_pos h5] at h3; omega
   ·exact ⟨h4, by omega, by omega⟩
  ·rw [if_pos h4] at h3; exact absurd h3 h4
 ·rw [if_pos h2] at h; exact absurd h h2
theorem chkCt_all {c : Ct} (h : chkCt c = 0) : (0 ≤ c.f ∧ c.f ≤ 15) ∧ (0 ≤ c.t ∧ c.t ≤ 15) ∧ (0 ≤ c.s ∧ c.s < c.e ∧ c.e ≤ 1099511627776) ∧ (1 ≤ c.r ∧ c.r ≤ 1000) ∧ (1 ≤ c.g ∧ c.g ≤ 1048576) := by
 have h2 := chkCt_se h
 unfold chkCt at h
 by_cases h1 : okCt c
 ·unfold okCt at h1
  exact ⟨h1.1, h1.2.1, h2, h1.2.2.1, h1.2.2.2.1⟩
 ·rw [if_pos h1] at h; omega
end Go.Proofs.YthdoegkjifgegaaGreat
/- Rooms, arrivals, shipments. -/
namespace Go.Proofs.YthdoegkjifgegaaGreat
open Go.Eng Go.Step
set_option maxRecDepth 100000
set_option maxHeartbeats 4000000

def encX (x : Sh) : List Value := [int x.c, int x.t, int x.n]
theorem encX_len (x : Sh) : (encX x).length = 3 := rfl
abbrev ShAt (ρ : PH) (v : Value) (l : List Sh) : Prop := SlE encX 3 ρ v l
end Go.Proofs.YthdoegkjifgegaaGreat
/- Cuts and their capacities. No program in sight. No conditions. -/
namespace Go.Step
abbrev Cu := List (List (Int × Int))
def cuAt (c : Cu) (n : Int) : List (Int × Int) := c.getD n.toNat []
def sumT (f : Int → Int) (a : Int) : Nat → Int
  | 0 => 0
  | m + 1 => sumT f a m + f (a + m)
theorem sumT_congr {f g : Int → Int} {a : Int} : ∀ {m : Nat}, (∀ k : Nat, k < m → f (a + k) = g (a + k)) → sumT f a m = sumT g a m
  | 0, _ => rfl
  | m + 1, h => by rw [sumT, sumT, sumT_congr (m := m) (fun k hk => h k (Nat.lt_succ_of_lt hk)), h m (Nat.lt_succ_self m)]
def sumU (f : Int → Int) (a t : Int) : Int := sumT f a (t - a).toNat
end Go.Step
/- What crosses a cut. -/
namespace Go.Proofs.YthdoegkjifgegaaGreat
open Go.Eng Go.Step
set_option maxRecDepth 100000
set_option maxHeartbeats 4000000

def CutRow (ρ κ : PH) (p : Option Addr) (c : Cu) : Prop := ∀ (i : Nat) (l : List (Int × Int)), c[i]? = some l → ∃ b o q k, p = some ⟨b, o, none⟩ ∧ rdc ρ b (o + i) = some (.slice q l.length k) ∧ SpAt κ (.slice q l.length k) l ∧ l.length ≤ 9223372036854775807
end Go.Proofs.YthdoegkjifgegaaGreat
/- Arguments that are slices: their room. No conditions. -/
namespace Go.Eng
open Go.ChangeShapes Go.WideShapes Go.RowKit
variable {P : Program} {W : World} {t : TypeId}
theorem RdT.capOK {e : TypeId} {v : Value} (ht : P.underlying t = some (.slice e)) (h : RdT P W t [v]) : CapOK v := by
  obtain ⟨H, enc, fuel, x, h⟩ := h
  rcases Deep.open_slice ht h with ⟨e, _⟩ | ⟨a, len, cap, m, n, D, Pl, e, _, hlc, _⟩
  · simp only [List.cons.injEq, and_true] at e
    exact ⟨_, _, _, e, Nat.le_refl _⟩
  · simp only [List.cons.injEq, and_true] at e
    exact ⟨_, _, _, e, hlc⟩
end Go.Eng
/- The rows: each law, for every input. -/
namespace Go.Proofs.YthdoegkjifgegaaGreat
open Go.Eng Go.Step
set_option maxRecDepth 100000
set_option maxHeartbeats 4000000
open Go.ChangeShapes Go.WideShapes Go.ChangeAt Go.RowKit

theorem Tryz.own : ownKnob Tryz.prog.godebug = none := by kernel_rfl
theorem Tryz.laidOut : laidOutB Tryz.prog = true := by kernel_rfl
theorem ct_of {W : World} {x : List Value} (h : RdT Tryz.prog W 70 x) : ∃ a : Ct, x = encC a ∧ True := by
 obtain ⟨h1, _⟩ := h.struct Tryz.underlying70
 have hc : Tryz.prog.cellsOf 70 = 7 := by kernel_rfl
 rw [hc] at h1
 match x, h1 with
 | [c0, c1, c2, c3, c4, c5, c6], _ =>
  have k : Tryz.prog.cellsOf 3 = 1 := by kernel_rfl
  obtain ⟨x0, e0, _⟩ := (h.fld1 Tryz.underlying70 0 rfl rfl rfl k rfl).i64 Tryz.underlying3
  obtain ⟨x1, e1, _⟩ := (h.fld1 Tryz.underlying70 1 rfl rfl rfl k rfl).i64 Tryz.underlying3
  obtain ⟨x2, e2, _⟩ := (h.fld1 Tryz.underlying70 2 rfl rfl rfl k rfl).i64 Tryz.underlying3
  obtain ⟨x3, e3, _⟩ := (h.fld1 Tryz.underlying70 3 rfl rfl rfl k rfl).i64 Tryz.underlying3
  obtain ⟨x4, e4, _⟩ := (h.fld1 Tryz.underlying70 4 rfl rfl rfl k rfl).i64 Tryz.underlying3
  obtain ⟨x5, e5, _⟩ := (h.fld1 Tryz.underlying70 5 rfl rfl rfl k rfl).i64 Tryz.underlying3
  obtain ⟨x6, e6, _⟩ := (h.fld1 Tryz.underlying70 6 rfl rfl rfl k rfl).i64 Tryz.underlying3
  simp at e0 e1 e2 e3 e4 e5 e6
  subst e0 e1 e2 e3 e4 e5 e6
  exact ⟨⟨x0, x1, x2, x3, x4, x5, x6⟩, rfl, trivial⟩
theorem bk_of {W : World} {x : List Value} (h : RdT Tryz.prog W 73 x) : ∃ a : Bk, x = encB a ∧ True := by
 obtain ⟨h1, _⟩ := h.struct Tryz.underlying73
 have hc : Tryz.prog.cellsOf 73 = 4 := by kernel_rfl
 rw [hc] at h1
 match x, h1 with
 | [c0, c1, c2, c3], _ =>
  have k : Tryz.prog.cellsOf 3 = 1 := by kernel_rfl
  obtain ⟨x0, e0, _⟩ := (h.fld1 Tryz.underlying73 0 rfl rfl rfl k rfl).i64 Tryz.underlying3
  obtain ⟨x1, e1, _⟩ := (h.fld1 Tryz.underlying73 1 rfl rfl rfl k rfl).i64 Tryz.underlying3
  obtain ⟨x2, e2, _⟩ := (h.fld1 Tryz.underlying73 2 rfl rfl rfl k rfl).i64 Tryz.underlying3
  obtain ⟨x3, e3, _⟩ := (h.fld1 Tryz.underlying73 3 rfl rfl rfl k rfl).i64 Tryz.underlying3
  simp at e0 e1 e2 e3
  subst e0 e1 e2 e3
  exact ⟨⟨x0, x1, x2, x3⟩, rfl, trivial⟩
theorem hd_of {W : World} {x : List Value} (h : RdT Tryz.prog W 75 x) : ∃ a : Hd, x = encH a ∧ True := by
 obtain ⟨h1, _⟩ := h.struct Tryz.underlying75
 have hc : Tryz.prog.cellsOf 75 = 5 := by kernel_rfl
 rw [hc] at h1
 match x, h1 with
 | [c0, c1, c2, c3, c4], _ =>
  have k : Tryz.prog.cellsOf 3 = 1 := by kernel_rfl
  obtain ⟨x0, e0, _⟩ := (h.fld1 Tryz.underlying75 0 rfl rfl rfl k rfl).i64 Tryz.underlying3
  obtain ⟨x1, e1, _⟩ := (h.fld1 Tryz.underlying75 1 rfl rfl rfl k rfl).i64 Tryz.underlying3
  obtain ⟨x2, e2, _⟩ := (h.fld1 Tryz.underlying75 2 rfl rfl rfl k rfl).i64 Tryz.underlying3
  obtain ⟨x3, e3, _⟩ := (h.fld1 Tryz.underlying75 3 rfl rfl rfl k rfl).i64 Tryz.underlying3
  obtain ⟨x4, e4, _⟩ := (h.fld1 Tryz.underlying75 4 rfl rfl rfl k rfl).i64 Tryz.underlying3
  simp at e0 e1 e2 e3 e4
  subst e0 e1 e2 e3 e4
  exact ⟨⟨x0, x1, x2, x3, x4⟩, rfl, trivial⟩
theorem demand_of {W : World} {r : Reach} {base : Nat} {v0 : Value} (hv : Value.okWide Tryz.prog W r base 31 v0) (h : RdT Tryz.prog W 31 v0.cells.toList) : ∃ a : Dm, v0 = .agg [int a.s, int a.d, int a.v, int a.r, int a.e].toArray ∧ In64 a.s ∧ In64 a.d ∧ In64 a.v ∧ In64 a.r ∧ In64 a.e := by
 obtain ⟨cs, rfl⟩ := okWide_agg Tryz.underlying31 hv
 obtain ⟨h1, _⟩ := h.struct Tryz.underlying31
 have hc : Tryz.prog.cellsOf 31 = 5 := by kernel_rfl
 rw [hc] at h1
 obtain ⟨x⟩ := cs
 match x, h1 with
 | [c0, c1, c2, c3, c4], _ =>
  have k : Tryz.prog.cellsOf 3 = 1 := by kernel_rfl
  obtain ⟨x0, e0, i0⟩ := (h.fld1 Tryz.underlying31 0 rfl rfl rfl k rfl).i64 Tryz.underlying3
  obtain ⟨x1, e1, i1⟩ := (h.fld1 Tryz.underlying31 1 rfl rfl rfl k rfl).i64 Tryz.underlying3
  obtain ⟨x2, e2, i2⟩ := (h.fld1 Tryz.underlying31 2 rfl rfl rfl k rfl).i64 Tryz.underlying3
  obtain ⟨x3, e3, i3⟩ := (h.fld1 Tryz.underlying31 3 rfl rfl rfl k rfl).i64 Tryz.underlying3
  obtain ⟨x4, e4, i4⟩ := (h.fld1 Tryz.underlying31 4 rfl rfl rfl k rfl).i64 Tryz.underlying3
  simp at e0 e1 e2 e3 e4
  subst e0 e1 e2 e3 e4
  exact ⟨⟨x0, x1, x2, x3, x4⟩, rfl, i0, i1, i2, i3, i4⟩
theorem int_of {W : World} {x : List Value} (h : RdT Tryz.prog W 3 x) : ∃ a : Int, x = Eng.encI a ∧ True := by
 obtain ⟨a, e, _⟩ := h.i64 Tryz.underlying3
 exact ⟨a, e, trivial⟩
theorem tables_of {W : World} {r : Reach} {base : Nat} {v0 : Value} (hv : Value.okWide Tryz.prog W r base 29 v0) (h : RdT Tryz.prog W 29 v0.cells.toList) :
  ∃ (pq pc pb ph : Option Addr) (kq kc kb kh : Nat) (qs : List Int) (cs : List Ct) (bs : List Bk) (hs : List Hd), v0 = .agg #[.slice pq qs.length kq, .slice pc cs.length kc, .slice pb bs.length kb, .slice ph hs.length kh] ∧ TbAt (heapPH W) (heapPH W) (heapPH W) (heapPH W) pq pc pb ph kq kc kb kh qs cs bs hs := by
 obtain ⟨cs, rfl⟩ := okWide_agg Tryz.underlying29 hv
 obtain ⟨h1, hf⟩ := h.struct Tryz.underlying29
 have hc : Tryz.prog.cellsOf 29 = 4 := by kernel_rfl
 rw [hc] at h1
 obtain ⟨x⟩ := cs
 match x, h1 with
 | [c0, c1, c2, c3], _ =>
  have k0 : Tryz.prog.cellsOf 22 = 1 := by kernel_rfl
  have k1 : Tryz.prog.cellsOf 23 = 1 := by kernel_rfl
  have k2 : Tryz.prog.cellsOf 26 = 1 := by kernel_rfl
  have k3 : Tryz.prog.cellsOf 27 = 1 := by kernel_rfl
  have kp : Tryz.prog.cellsOf 25 = 2 := by kernel_rfl
  have hp : RdT Tryz.prog W 25 [c0, c1] := by
   have : RdT Tryz.prog W 25 ((([c0, c1, c2, c3] : List Value).drop 0).take (Tryz.prog.cellsOf 25)) := hf 0 _ rfl
   rw [show (Tryz.prog.cellsOf 25) = 2 from kp] at this
   exact this
  have f0 := hp.fld1 Tryz.underlying25 0 rfl rfl rfl k0 rfl
  have f1 := hp.fld1 Tryz.underlying25 1 rfl rfl rfl k1 rfl
  have f2 := h.fld1 Tryz.underlying29 1 rfl rfl rfl k2 rfl
  have f3 := h.fld1 Tryz.underlying29 2 rfl rfl rfl k3 rfl
  obtain ⟨v, e, qs, a1, a2, a3⟩ := f0.sliceE Tryz.underlying22 (s := 1) (by kernel_rfl) (by omega) (fun x hx => int_of hx)
  simp only [List.cons.injEq, and_true] at e
  obtain ⟨u, e', ct, b1, b2, b3⟩ := f1.sliceE Tryz.underlying23 (s := 7) (by kernel_rfl) (by omega) (fun x hx => ct_of hx)
  simp only [List.cons.injEq, and_true] at e'
  obtain ⟨u2, e2, bk, d1, d2, d3⟩ := f2.sliceE Tryz.underlying26 (s := 4) (by kernel_rfl) (by omega) (fun x hx => bk_of hx)
  simp only [List.cons.injEq, and_true] at e2
  obtain ⟨u3, e3, hd, g1, g2, g3⟩ := f3.sliceE Tryz.underlying27 (s := 5) (by kernel_rfl) (by omega) (fun x hx => hd_of hx)
  simp only [List.cons.injEq, and_true] at e3
  have cap2 := f1.capOK Tryz.underlying23
  subst e e' e2 e3
  obtain ⟨pq, kq, rfl, _⟩ := a1.val Eng.encI_len
  obtain ⟨pc, kc, rfl, _⟩ := b1.val encC_len
  obtain ⟨pb, kb, rfl, _⟩ := d1.val encB_len
  obtain ⟨ph, kh, rfl, _⟩ := g1.val encH_len
  simp only [maxLen] at a3 b3 d3 g3
  exact ⟨pq, pc, pb, ph, kq, kc, kb, kh, qs, ct, bk, hd, rfl, a1, b1, cap2.le, by omega, by omega, d1, by omega, g1, by omega⟩
end Go.Proofs.YthdoegkjifgegaaGreat
/- The rows: each law, for every input. -/
namespace Go.Proofs.YthdoegkjifgegaaGreat
open Go.Eng Go.Step
set_option maxRecDepth 100000
set_option maxHeartbeats 4000000
open Go.ChangeShapes Go.WideShapes Go.ChangeAt Go.RowKit

theorem intsV_of {W : World} {r : Reach} {base : Nat} {v0 : Value} (hv : Value.okWide Tryz.prog W r base 22 v0) (h : RdT Tryz.prog W 22 v0.cells.toList) : ∃ l : List Int, IntsAt (heapPH W) v0 l ∧ CapOK v0 ∧ l.length ≤ 9223372036854775807 := by
 obtain ⟨a, len, cap, rfl⟩ := okWide_slice Tryz.underlying22 hv
 have h' : RdT Tryz.prog W 22 [Value.slice a len cap] := h
 obtain ⟨v, e, l, h1, h2, h3⟩ := h'.sliceE Tryz.underlying22 (s := 1) (by kernel_rfl) (by omega) (fun x hx => int_of hx)
 simp only [List.cons.injEq, and_true] at e
 subst e
 exact ⟨l, h1, h'.capOK Tryz.underlying22, by simp only [maxLen] at h3; omega⟩
end Go.Proofs.YthdoegkjifgegaaGreat
/- Shipments and stocks, of the reference. -/
namespace Go.Proofs.YthdoegkjifgegaaGreat
open Go.Eng Go.Step
set_option maxRecDepth 100000
set_option maxHeartbeats 4000000

end Go.Proofs.YthdoegkjifgegaaGreat
/- Stocks, of the reference. -/
namespace Go.Proofs.YthdoegkjifgegaaGreat
open Go.Eng Go.Step
set_option maxRecDepth 100000
set_option maxHeartbeats 4000000

end Go.Proofs.YthdoegkjifgegaaGreat
/- Flow, of the reference. -/
namespace Go.Proofs.YthdoegkjifgegaaGreat
open Go.Eng Go.Step
set_option maxRecDepth 100000
set_option maxHeartbeats 4000000

theorem valid_ok {qs : List Int} {cs : List Ct} {bs : List Bk} {hs : List Hd} {d : Dm} (h : validT qs cs bs hs d = true) : (∀ c ∈ cs, chkCt c = 0 ∧ c.f < qs.length ∧ c.t < qs.length) ∧ bs.length ≤ 512 ∧ (∀ x ∈ hs, okHd qs.length x) ∧ hs.length ≤ 512 ∧ (1 ≤ qs.length ∧ qs.length ≤ 16) ∧ (∀ (j : Nat) (q : Int), qs[j]? = some q → 0 ≤ q ∧ q ≤ 1073741824) ∧ okDm qs.length d ∧ cs.length ≤ 64 := by
 obtain ⟨h1, h2⟩ := of_decide_eq_true h
 obtain ⟨p, b, hh⟩ := chkT_ok h1
 obtain ⟨k1, k2⟩ := chkPl_ct p
 obtain ⟨k3, k4⟩ := chkPl_quo p
 have k5 := chkB_ok b
 have k6 : (∀ x ∈ hs, okHd qs.length x) ∧ hs.length ≤ 512 := by
  unfold chkH at hh
  rw [if_neg (by simpa using p)] at hh
  by_cases c1 : 512 < hs.length
  ·rw [if_pos c1] at hh; omega
  rw [if_neg c1] at hh
  by_cases c2 : firstE (hdE qs.length hs) hs.length = 0
  ·have := hdE_ok c2
   rw [List.take_length] at this
   exact ⟨this, by omega⟩
  ·rw [if_pos c2] at hh; exact absurd hh c2
 exact ⟨k2, k5.1, k6.1, k6.2, k3, k4, h2, k1⟩
end Go.Proofs.YthdoegkjifgegaaGreat
/- A set of integers lies between its first and its last. No program in sight. No conditions. -/
namespace Go.Step
theorem chkI_at {l : List (Int × Int)} (h : chkI l = 0) {i : Nat} (hi : i < l.length) : l[i].1 < l[i].2 ∧ (∀ h0 : 0 < i, l[i - 1].2 < l[i].1) := by
  unfold chkI at h
  split at h
  · simp at h
  have h2 := firstE_zero h i hi
  rw [spE_at (List.getElem?_eq_getElem hi)] at h2
  split at h2
  · simp at h2
  rename_i h3
  split at h2
  · simp at h2
  rename_i h4
  have h5 : okSp l[i] := Decidable.not_not.1 h3
  refine ⟨h5.1, fun h0 => ?_⟩
  rw [List.getD_eq_getElem?_getD, List.getElem?_eq_getElem (by omega), Option.getD_some] at h4
  omega
theorem chkI_hi {l : List (Int × Int)} (h : chkI l = 0) : ∀ (k : Nat) {i : Nat} (hi : i + k < l.length), l[i].2 ≤ l[i + k].2
  | 0, i, hi => Int.le_refl _
  | k + 1, i, hi => by
    have h1 := chkI_hi h k (i := i) (by omega)
    have h2 := (chkI_at h (i := i + (k + 1)) hi).1
    have h3 := (chkI_at h hi).2 (by omega)
    have e : i + (k + 1) - 1 = i + k := by omega
    simp only [e] at h3
    omega
end Go.Step
/- Union and intersection of sets of integers. No program in sight. No conditions. -/
namespace Go.Step
abbrev Iv := List (Int × Int)
def NormI (l : Iv) : Prop := (∀ x ∈ l, x.1 < x.2) ∧ l.Pairwise (fun x y => x.2 < y.1)
def memI (l : Iv) (t : Int) : Bool := l.any (inSp t)
theorem inSp_iff {t : Int} {x : Int × Int} : inSp t x = true ↔ x.1 ≤ t ∧ t < x.2 := by simp [inSp]
theorem memI_iff {l : Iv} {t : Int} : memI l t = true ↔ ∃ x ∈ l, x.1 ≤ t ∧ t < x.2 := by simp [memI, inSp]
theorem memI_cons (x : Int × Int) (l : Iv) (t : Int) : memI (x :: l) t = (inSp t x || memI l t) := rfl
theorem NormI.nil : NormI [] := ⟨by simp, .nil⟩
theorem NormI.tail {x : Int × Int} {l : Iv} (h : NormI (x :: l)) : NormI l := ⟨fun y hy => h.1 y (by simp [hy]), (List.pairwise_cons.1 h.2).2⟩
theorem NormI.hd {x : Int × Int} {l : Iv} (h : NormI (x :: l)) : x.1 < x.2 ∧ ∀ y ∈ l, x.2 < y.1 := ⟨h.1 x (by simp), (List.pairwise_cons.1 h.2).1⟩
theorem NormI.cons {x : Int × Int} {l : Iv} (h : NormI l) (h1 : x.1 < x.2) (h2 : ∀ y ∈ l, x.2 < y.1) : NormI (x :: l) :=
  ⟨fun y hy => by
    rcases List.mem_cons.1 hy with rfl | hy
    · exact h1
    · exact h.1 y hy, List.pairwise_cons.2 ⟨h2, h.2⟩⟩
theorem memI_lo {x : Int × Int} {l : Iv} {t : Int} (h : NormI (x :: l)) (hm : memI (x :: l) t = true) : x.1 ≤ t := by
  obtain ⟨y, hy, h1, h2⟩ := memI_iff.1 hm
  rcases List.mem_cons.1 hy with rfl | hy
  · exact h1
  · have a := h.hd.1
    have b := h.hd.2 y hy
    omega
theorem memI_lo2 {x : Int × Int} {l : Iv} {t : Int} (h : NormI (x :: l)) (hm : memI l t = true) : x.2 < t := by
  obtain ⟨y, hy, h1, h2⟩ := memI_iff.1 hm
  have b := h.hd.2 y hy
  omega
theorem memI_first {x : Int × Int} {l : Iv} (h : x.1 < x.2) : memI (x :: l) x.1 = true := memI_iff.2 ⟨x, by simp, by omega, h⟩
theorem normI_ext : ∀ {a b : Iv}, NormI a → NormI b → (∀ t, memI a t = memI b t) → a = b
  | [], [], _, _, _ => rfl
  | [], y :: b, _, hb, h => by
    have := h y.1
    rw [memI_first hb.hd.1] at this
    exact absurd this (by simp [memI])
  | x :: a, [], ha, _, h => by
    have := h x.1
    rw [memI_first ha.hd.1] at this
    exact absurd this (by simp [memI])
  | x :: a, y :: b, ha, hb, h => by
    have e1 : x.1 = y.1 := by
      have h1 := memI_lo hb (t := x.1) (by rw [← h]; exact memI_first ha.hd.1)
      have h2 := memI_lo ha (t := y.1) (by rw [h]; exact memI_first hb.hd.1)
      omega
    have hx := ha.hd.1
    have hy := hb.hd.1
    have e2 : x.2 = y.2 := by
      apply Int.le_antisymm
      · apply Int.not_lt.1
        intro hlt
        have h1 := h y.2
        rw [memI_cons, memI_cons, (inSp_iff (t := y.2) (x := x)).2 ⟨by omega, hlt⟩, Bool.true_or] at h1
        rcases (Bool.or_eq_true _ _).mp h1.symm with h2 | h2
        · have := (inSp_iff.1 h2).2; omega
        · have := memI_lo2 hb h2; omega
      · apply Int.not_lt.1
        intro hlt
        have h1 := h x.2
        rw [memI_cons, memI_cons, (inSp_iff (t := x.2) (x := y)).2 ⟨by omega, hlt⟩, Bool.true_or] at h1
        rcases (Bool.or_eq_true _ _).mp h1 with h2 | h2
        · have := (inSp_iff.1 h2).2; omega
        · have := memI_lo2 ha h2; omega
    have exy : x = y := Prod.ext e1 e2
    subst exy
    congr 1
    refine normI_ext ha.tail hb.tail (fun t => ?_)
    by_cases ht : x.2 < t
    · have h1 := h t
      have h2 : inSp t x = false := by
        cases e : inSp t x with
        | false => rfl
        | true => have := (inSp_iff.1 e).2; omega
      rw [memI_cons, memI_cons, h2, Bool.false_or, Bool.false_or] at h1
      exact h1
    · have h1 : memI a t = false := by
        cases e : memI a t with
        | false => rfl
        | true => exact absurd (memI_lo2 ha e) ht
      have h2 : memI b t = false := by
        cases e : memI b t with
        | false => rfl
        | true => exact absurd (memI_lo2 hb e) ht
      rw [h1, h2]
/-! sets that are checked -/
theorem chkI_norm {l : Iv} (h : chkI l = 0) : l.length ≤ 1000 ∧ NormI l ∧ ∀ x ∈ l, okSp x := by
  have h1 : l.length ≤ 1000 := by
    unfold chkI at h
    split at h
    · simp at h
    · omega
  refine ⟨h1, ⟨fun x hx => ?_, List.pairwise_iff_getElem.2 (fun i j hi hj hij => ?_)⟩, fun x hx => ?_⟩
  · obtain ⟨i, hi, rfl⟩ := List.getElem_of_mem hx
    exact (chkI_at h hi).1
  · have a := chkI_hi h (j - 1 - i) (i := i) (by omega)
    have b := (chkI_at h hj).2 (by omega)
    have e : i + (j - 1 - i) = j - 1 := by omega
    simp only [e] at a
    omega
  · obtain ⟨i, hi, rfl⟩ := List.getElem_of_mem hx
    unfold chkI at h
    rw [if_neg (by omega)] at h
    have h2 := firstE_zero h i hi
    rw [spE_at (List.getElem?_eq_getElem hi)] at h2
    split at h2
    · simp at h2
    · rename_i h3; exact Decidable.not_not.1 h3
theorem chkI_of {l : Iv} (h1 : l.length ≤ 1000) (h2 : NormI l) (h3 : ∀ x ∈ l, okSp x) : chkI l = 0 := by
  unfold chkI
  rw [if_neg (by omega)]
  refine firstE_all (fun k hk => ?_)
  rw [spE_at (List.getElem?_eq_getElem hk), if_neg (fun h => h (h3 _ (List.getElem_mem hk)))]
  by_cases h0 : 0 < k
  · have h4 := List.pairwise_iff_getElem.1 h2.2 (k - 1) k (by omega) hk (by omega)
    rw [if_neg]
    rw [List.getD_eq_getElem?_getD, List.getElem?_eq_getElem (by omega), Option.getD_some]
    omega
  · rw [if_neg (fun h => h0 h.1)]
theorem hasI_mem {l : Iv} (h : chkI l = 0) (t : Int) : hasI l t = memI l t := by unfold hasI memI; rw [decide_eq_true h, Bool.true_and]
/-! one more span -/
def absI : Iv → Int × Int → Iv
  | [], x => [x]
  | y :: l, x => if y.1 ≤ x.2 then absI l (min x.1 y.1, max x.2 y.2) else x :: y :: l
def insI : Iv → Int × Int → Iv
  | [], x => [x]
  | y :: l, x => if y.2 < x.1 then y :: insI l x else absI (y :: l) x
theorem absI_ok : ∀ {l : Iv} {x : Int × Int} {lo : Int}, NormI l → x.1 < x.2 → (∀ y ∈ l, x.1 ≤ y.2) → lo < x.1 → (∀ y ∈ l, lo < y.1) → NormI (absI l x) ∧ (∀ t, memI (absI l x) t = (memI l t || inSp t x)) ∧ (∀ z ∈ absI l x, lo < z.1) ∧ (absI l x).length ≤ l.length + 1
  | [], x, lo, _, h, _, hlo, _ => ⟨NormI.nil.cons h (by simp), fun t => by simp [absI, memI], by simpa [absI] using hlo, by simp [absI]⟩
  | y :: l, x, lo, hn, h, hy, hlo, hl => by
    unfold absI
    have hy1 := hn.hd.1
    have hy2 := hy y (by simp)
    have hl1 := hl y (by simp)
    split
    · rename_i hc
      obtain ⟨a, b, c, d⟩ := absI_ok (l := l) (x := (min x.1 y.1, max x.2 y.2)) (lo := lo) hn.tail (by dsimp only; omega) (fun z hz => by have := hn.hd.2 z hz; have := hn.1 z (by simp [hz]); dsimp only; omega) (by dsimp only; omega) (fun z hz => hl z (by simp [hz]))
      refine ⟨a, fun t => ?_, c, by simp only [List.length_cons]; omega⟩
      rw [b, memI_cons]
      have e : inSp t (min x.1 y.1, max x.2 y.2) = (inSp t x || inSp t y) := by
        rw [Bool.eq_iff_iff, Bool.or_eq_true, inSp_iff, inSp_iff, inSp_iff]
        dsimp only
        omega
      rw [e]
      cases inSp t x <;> cases inSp t y <;> cases memI l t <;> rfl
    · rename_i hc
      refine ⟨hn.cons h (fun z hz => ?_), fun t => ?_, fun z hz => ?_, by simp⟩
      · rcases List.mem_cons.1 hz with rfl | hz
        · omega
        · have := hn.hd.2 z hz; omega
      · rw [memI_cons, Bool.or_comm]
      · rcases List.mem_cons.1 hz with rfl | hz
        · exact hlo
        · exact hl z hz
theorem insI_ok : ∀ {l : Iv} {x : Int × Int} {lo : Int}, NormI l → x.1 < x.2 → lo < x.1 → (∀ y ∈ l, lo < y.1) → NormI (insI l x) ∧ (∀ t, memI (insI l x) t = (memI l t || inSp t x)) ∧ (∀ z ∈ insI l x, lo < z.1) ∧ (insI l x).length ≤ l.length + 1
  | [], x, lo, _, h, hlo, _ => ⟨NormI.nil.cons h (by simp), fun t => by simp [insI, memI], by simpa [insI] using hlo, by simp [insI]⟩
  | y :: l, x, lo, hn, h, hlo, hl => by
    unfold insI
    have hy1 := hn.hd.1
    have hl1 := hl y (by simp)
    split
    · rename_i hc
      obtain ⟨a, b, c, d⟩ := insI_ok (l := l) (x := x) (lo := y.2) hn.tail h hc hn.hd.2
      refine ⟨a.cons hy1 c, fun t => ?_, fun z hz => ?_, by simp only [List.length_cons]; omega⟩
      · rw [memI_cons, b, memI_cons, Bool.or_assoc]
      · rcases List.mem_cons.1 hz with rfl | hz
        · exact hl1
        · have := c z hz; omega
    · rename_i hc
      refine absI_ok hn h (fun z hz => ?_) hlo hl
      rcases List.mem_cons.1 hz with rfl | hz
      · omega
      · have := hn.hd.2 z hz
        have := hn.1 z (by simp [hz])
        omega
theorem lo_ex (l : Iv) (x : Int) : ∃ lo, lo < x ∧ ∀ y ∈ l, lo < y.1 := by
  induction l with
  | nil => exact ⟨x - 1, by omega, by simp⟩
  | cons y l ih =>
    obtain ⟨lo, h1, h2⟩ := ih
    refine ⟨min lo (y.1 - 1), by omega, fun z hz => ?_⟩
    rcases List.mem_cons.1 hz with rfl | hz
    · omega
    · have := h2 z hz; omega
theorem insI_norm {l : Iv} {x : Int × Int} (h : NormI l) (hx : x.1 < x.2) : NormI (insI l x) ∧ (∀ t, memI (insI l x) t = (memI l t || inSp t x)) ∧ (insI l x).length ≤ l.length + 1 := by
  obtain ⟨lo, h1, h2⟩ := lo_ex l x.1
  obtain ⟨a, b, _, d⟩ := insI_ok h hx h1 h2
  exact ⟨a, b, d⟩
def insAll (a : Iv) (b : Iv) : Iv := b.foldl insI a
theorem insAll_ok : ∀ {b a : Iv}, NormI a → (∀ x ∈ b, x.1 < x.2) → NormI (insAll a b) ∧ (∀ t, memI (insAll a b) t = (memI a t || memI b t)) ∧ (insAll a b).length ≤ a.length + b.length
  | [], a, h, _ => ⟨h, fun t => by simp [insAll, memI], by simp [insAll]⟩
  | x :: b, a, h, hb => by
    obtain ⟨a1, a2, a3⟩ := insI_norm h (hb x (by simp))
    obtain ⟨b1, b2, b3⟩ := insAll_ok (b := b) a1 (fun y hy => hb y (by simp [hy]))
    refine ⟨b1, fun t => ?_, ?_⟩
    · show memI (insAll (insI a x) b) t = _
      rw [b2, a2, memI_cons, Bool.or_assoc]
    · show (insAll (insI a x) b).length ≤ _
      simp only [List.length_cons]
      omega
theorem insI_take {l : Iv} {x : Int × Int} : ∀ {i : Nat}, i ≤ l.length → (∀ y ∈ l.take i, y.2 < x.1) → insI l x = l.take i ++ insI (l.drop i) x := by
  induction l with
  | nil => intro i hi _; obtain rfl : i = 0 := (by simpa using hi); rfl
  | cons y l ih =>
    intro i hi h
    cases i with
    | zero => rfl
    | succ i =>
      rw [List.take_succ_cons, List.drop_succ_cons, List.cons_append]
      show (if y.2 < x.1 then y :: insI l x else absI (y :: l) x) = _
      rw [if_pos (h y (by simp)), ih (by simpa using hi) (fun z hz => h z (by simp [hz]))]
/-! intersection, span by span -/
/-! ends of spans -/
def tog (l : Iv) : List Int := l.flatMap (fun x => [x.1, x.2])
theorem tog_len : ∀ l : Iv, (tog l).length = 2 * l.length
  | [] => rfl
  | x :: l => by
    have := tog_len l
    show (x.1 :: x.2 :: tog l).length = _
    simp only [List.length_cons]
    omega
theorem tog_get : ∀ (l : Iv) (i : Nat) (x : Int × Int), l[i]? = some x → (tog l)[2 * i]? = some x.1 ∧ (tog l)[2 * i + 1]? = some x.2
  | [], i, x, h => by simp at h
  | y :: l, 0, x, h => by
    simp only [List.getElem?_cons_zero, Option.some.injEq] at h
    subst h
    exact ⟨rfl, rfl⟩
  | y :: l, i + 1, x, h => by
    have := tog_get l i x (by simpa using h)
    show (y.1 :: y.2 :: tog l)[2 * (i + 1)]? = _ ∧ (y.1 :: y.2 :: tog l)[2 * (i + 1) + 1]? = _
    rw [show 2 * (i + 1) = 2 * i + 1 + 1 by omega]
    exact this
def parT : List Int → Int → Bool
  | [], _ => false
  | e :: E, t => if e ≤ t then !(parT E t) else parT E t
theorem parT_tog : ∀ {l : Iv}, NormI l → ∀ t, parT (tog l) t = memI l t
  | [], _, t => rfl
  | x :: l, h, t => by
    have ih := parT_tog h.tail t
    have hx := h.hd.1
    show (if x.1 ≤ t then !(if x.2 ≤ t then !(parT (tog l) t) else parT (tog l) t) else (if x.2 ≤ t then !(parT (tog l) t) else parT (tog l) t)) = (inSp t x || memI l t)
    rw [ih]
    have h1 : t ≤ x.2 → memI l t = false := fun hle => by
      cases e : memI l t with
      | false => rfl
      | true => have := memI_lo2 h e; omega
    have h2 : inSp t x = decide (x.1 ≤ t ∧ t < x.2) := by rw [Bool.eq_iff_iff, inSp_iff, decide_eq_true_eq]
    rw [h2]
    by_cases c1 : x.1 ≤ t
    · by_cases c2 : x.2 ≤ t
      · rw [if_pos c1, if_pos c2, decide_eq_false (by omega), Bool.not_not, Bool.false_or]
      · rw [if_pos c1, if_neg c2, decide_eq_true (by omega), h1 (by omega)]; rfl
    · rw [if_neg c1, if_neg (by omega), decide_eq_false (by omega), Bool.false_or]
def oddB (n : Nat) : Bool := decide (n % 2 = 1)
theorem oddB_succ (n : Nat) : oddB (n + 1) = !(oddB n) := by
  unfold oddB
  by_cases h : n % 2 = 1
  · rw [decide_eq_true h, decide_eq_false (by omega)]; rfl
  · rw [decide_eq_false h, decide_eq_true (by omega)]; rfl
theorem parT_snoc (t x : Int) : ∀ O : List Int, parT (O ++ [t]) x = if t ≤ x then !(parT O x) else parT O x
  | [] => by simp [parT]
  | o :: O => by
    have ih := parT_snoc t x O
    show (if o ≤ x then !(parT (O ++ [t]) x) else parT (O ++ [t]) x) = if t ≤ x then !(if o ≤ x then !(parT O x) else parT O x) else (if o ≤ x then !(parT O x) else parT O x)
    rw [ih]
    split <;> split <;> rfl
theorem parT_all {x : Int} : ∀ {O : List Int}, (∀ o ∈ O, o ≤ x) → parT O x = oddB O.length
  | [], _ => rfl
  | o :: O, h => by
    show (if o ≤ x then !(parT O x) else parT O x) = oddB (O.length + 1)
    rw [if_pos (h o (by simp)), parT_all (fun p hp => h p (by simp [hp])), oddB_succ]
theorem parT_none {x : Int} : ∀ {O : List Int}, (∀ o ∈ O, x < o) → parT O x = false
  | [], _ => rfl
  | o :: O, h => by
    show (if o ≤ x then !(parT O x) else parT O x) = false
    have := h o (by simp)
    rw [if_neg (by omega), parT_none (fun p hp => h p (by simp [hp]))]
def mrg : List Int → Bool → List Int → Bool → List (Int × Bool × Bool)
  | [], _, [], _ => []
  | a :: A, p, [], q => (a, !p, q) :: mrg A (!p) [] q
  | [], p, b :: B, q => (b, p, !q) :: mrg [] p B (!q)
  | a :: A, p, b :: B, q => if a < b then (a, !p, q) :: mrg A (!p) (b :: B) q else if b < a then (b, p, !q) :: mrg (a :: A) p B (!q) else (a, !p, !q) :: mrg A (!p) B (!q)
termination_by A _ B _ => A.length + B.length
def mcomb1 (f : Bool → Bool → Bool) (O : List Int) (e : Int × Bool × Bool) : List Int := if f e.2.1 e.2.2 = oddB O.length then O else O ++ [e.1]
def mcomb (f : Bool → Bool → Bool) (S : List (Int × Bool × Bool)) (O : List Int) : List Int := S.foldl (mcomb1 f) O
theorem comb1_odd (f : Bool → Bool → Bool) (O : List Int) (e : Int × Bool × Bool) : oddB (mcomb1 f O e).length = f e.2.1 e.2.2 := by
  unfold mcomb1
  split
  · rename_i h; exact h.symm
  · rename_i h
    rw [List.length_append, List.length_singleton, oddB_succ]
    cases h1 : oddB O.length <;> cases h2 : f e.2.1 e.2.2 <;> simp_all
structure Cm (f : Bool → Bool → Bool) (A : List Int) (p : Bool) (B : List Int) (q : Bool) (O O' : List Int) : Prop where
  asc : O'.Pairwise (· < ·)
  hi : ∀ x, (∀ o ∈ O, o ≤ x) → parT O' x = f (p ^^ parT A x) (q ^^ parT B x)
  lo : ∀ x, (∀ a ∈ A, x < a) → (∀ b ∈ B, x < b) → parT O' x = parT O x
  len : O'.length ≤ O.length + A.length + B.length
theorem Cm.step {f : Bool → Bool → Bool} {A A1 : List Int} {p p1 : Bool} {B B1 : List Int} {q q1 : Bool} {O O' : List Int} {t : Int}
    (h : Cm f A1 p1 B1 q1 (mcomb1 f O (t, p1, q1)) O') (ho : oddB O.length = f p q) (hA : ∀ a ∈ A, t ≤ a) (hB : ∀ b ∈ B, t ≤ b) (hOt : ∀ o ∈ O, o < t)
    (eA : ∀ x, t ≤ x → (p1 ^^ parT A1 x) = (p ^^ parT A x)) (eB : ∀ x, t ≤ x → (q1 ^^ parT B1 x) = (q ^^ parT B x)) (sA : ∀ a ∈ A1, t < a) (sB : ∀ b ∈ B1, t < b) (hl : A1.length + B1.length + 1 ≤ A.length + B.length) (hin : t ∈ A ∨ t ∈ B) : Cm f A p B q O O' := by
  have hmem : ∀ o ∈ mcomb1 f O (t, p1, q1), o ≤ t := fun o ho => by
    unfold mcomb1 at ho
    split at ho
    · have := hOt o ho; omega
    · rcases List.mem_append.1 ho with h | h
      · have := hOt o h; omega
      · have := List.mem_singleton.1 h; omega
  have hpre : ∀ x, x < t → parT (mcomb1 f O (t, p1, q1)) x = parT O x := fun x hx => by
    unfold mcomb1
    split
    · rfl
    · rw [parT_snoc, if_neg (by dsimp only; omega)]
  have hcl : (mcomb1 f O (t, p1, q1)).length ≤ O.length + 1 := by
    unfold mcomb1
    split
    · omega
    · simp
  refine ⟨h.asc, fun x hx => ?_, fun x hx hy => ?_, by have := h.len; omega⟩
  · by_cases ht : t ≤ x
    · rw [h.hi x (fun o ho => Int.le_trans (hmem o ho) ht), eA x ht, eB x ht]
    · rw [h.lo x (fun a ha => by have := sA a ha; omega) (fun b hb => by have := sB b hb; omega), hpre x (by omega), parT_all hx, parT_none (fun a ha => by have := hA a ha; omega), parT_none (fun b hb => by have := hB b hb; omega), Bool.xor_false, Bool.xor_false, ho]
  · have ht : x < t := by
      rcases hin with h | h
      · exact hx t h
      · exact hy t h
    rw [h.lo x (fun a ha => by have := sA a ha; omega) (fun b hb => by have := sB b hb; omega), hpre x ht]
theorem comb1_asc {f : Bool → Bool → Bool} {O : List Int} {e : Int × Bool × Bool} (h : O.Pairwise (· < ·)) (ho : ∀ o ∈ O, o < e.1) : (mcomb1 f O e).Pairwise (· < ·) := by
  unfold mcomb1
  split
  · exact h
  · rw [List.pairwise_append]
    exact ⟨h, List.pairwise_singleton _ _, fun a ha b hb => by rw [List.mem_singleton.1 hb]; exact ho a ha⟩
theorem comb1_lt {f : Bool → Bool → Bool} {O : List Int} {e : Int × Bool × Bool} {S : List Int} (ho : ∀ o ∈ O, ∀ a ∈ S, o < a) (he : ∀ a ∈ S, e.1 < a) : ∀ o ∈ mcomb1 f O e, ∀ a ∈ S, o < a := fun o h a ha => by
  unfold mcomb1 at h
  split at h
  · exact ho o h a ha
  · rcases List.mem_append.1 h with h | h
    · exact ho o h a ha
    · rw [List.mem_singleton.1 h]; exact he a ha
theorem comb_ok (f : Bool → Bool → Bool) : ∀ (n : Nat) (A : List Int) (p : Bool) (B : List Int) (q : Bool) (O : List Int), A.length + B.length ≤ n → A.Pairwise (· < ·) → B.Pairwise (· < ·) → O.Pairwise (· < ·) → (∀ o ∈ O, ∀ a ∈ A, o < a) → (∀ o ∈ O, ∀ b ∈ B, o < b) → oddB O.length = f p q → Cm f A p B q O (mcomb f (mrg A p B q) O) := by
  have flip : ∀ (p z : Bool), (!p ^^ z) = (p ^^ !z) := by decide
  intro n
  induction n with
  | zero =>
    intro A p B q O hn _ _ hO _ _ ho
    obtain rfl : A = [] := List.eq_nil_of_length_eq_zero (by omega)
    obtain rfl : B = [] := List.eq_nil_of_length_eq_zero (by omega)
    unfold mrg
    exact ⟨hO, fun x hx => by rw [show mcomb f [] O = O from rfl, parT_all hx, ho]; simp [parT], fun _ _ _ => rfl, by show O.length ≤ _; omega⟩
  | succ n ih =>
    intro A p B q O hn hA hB hO hOA hOB ho
    match A, B, hn, hA, hB, hOA, hOB with
    | [], [], _, _, _, _, _ =>
      unfold mrg
      exact ⟨hO, fun x hx => by rw [show mcomb f [] O = O from rfl, parT_all hx, ho]; simp [parT], fun _ _ _ => rfl, by show O.length ≤ _; omega⟩
    | a :: A, [], hn, hA, hB, hOA, hOB =>
      unfold mrg
      obtain ⟨a1, a2⟩ := List.pairwise_cons.1 hA
      refine Cm.step (t := a) (ih A (!p) [] q (mcomb1 f O (a, !p, q)) (by simp at hn ⊢; omega) a2 hB (comb1_asc hO (fun o h => hOA o h a (by simp))) (comb1_lt (fun o h x hx => hOA o h x (by simp [hx])) a1) (fun _ _ _ h => by simp at h) (comb1_odd f O _)) ho (fun x hx => ?_) (fun _ h => by simp at h) (fun o h => hOA o h a (by simp)) (fun x hx => ?_) (fun _ _ => rfl) a1 (fun _ h => by simp at h) (by simp) (.inl (by simp))
      · rcases List.mem_cons.1 hx with rfl | hx
        · exact Int.le_refl _
        · exact Int.le_of_lt (a1 x hx)
      · show (!p ^^ parT A x) = (p ^^ if a ≤ x then !(parT A x) else parT A x)
        rw [if_pos hx, flip]
    | [], b :: B, hn, hA, hB, hOA, hOB =>
      unfold mrg
      obtain ⟨b1, b2⟩ := List.pairwise_cons.1 hB
      refine Cm.step (t := b) (ih [] p B (!q) (mcomb1 f O (b, p, !q)) (by simp at hn ⊢; omega) hA b2 (comb1_asc hO (fun o h => hOB o h b (by simp))) (fun _ _ _ h => by simp at h) (comb1_lt (fun o h x hx => hOB o h x (by simp [hx])) b1) (comb1_odd f O _)) ho (fun _ h => by simp at h) (fun x hx => ?_) (fun o h => hOB o h b (by simp)) (fun _ _ => rfl) (fun x hx => ?_) (fun _ h => by simp at h) b1 (by simp) (.inr (by simp))
      · rcases List.mem_cons.1 hx with rfl | hx
        · exact Int.le_refl _
        · exact Int.le_of_lt (b1 x hx)
      · show (!q ^^ parT B x) = (q ^^ if b ≤ x then !(parT B x) else parT B x)
        rw [if_pos hx, flip]
    | a :: A, b :: B, hn, hA, hB, hOA, hOB =>
      obtain ⟨a1, a2⟩ := List.pairwise_cons.1 hA
      obtain ⟨b1, b2⟩ := List.pairwise_cons.1 hB
      have la : ∀ x ∈ a :: A, a ≤ x := fun x hx => by
        rcases List.mem_cons.1 hx with rfl | hx
        · exact Int.le_refl _
        · exact Int.le_of_lt (a1 x hx)
      have lb : ∀ x ∈ b :: B, b ≤ x := fun x hx => by
        rcases List.mem_cons.1 hx with rfl | hx
        · exact Int.le_refl _
        · exact Int.le_of_lt (b1 x hx)
      unfold mrg
      split
      · rename_i hc
        refine Cm.step (t := a) (ih A (!p) (b :: B) q (mcomb1 f O (a, !p, q)) (by simp at hn ⊢; omega) a2 hB (comb1_asc hO (fun o h => hOA o h a (by simp))) (comb1_lt (fun o h x hx => hOA o h x (by simp [hx])) a1) (comb1_lt hOB (fun x hx => by have := lb x hx; dsimp only; omega)) (comb1_odd f O _)) ho la (fun x hx => by have := lb x hx; omega) (fun o h => hOA o h a (by simp)) (fun x hx => ?_) (fun _ _ => rfl) a1 (fun x hx => by have := lb x hx; omega) (by simp only [List.length_cons]; omega) (.inl (by simp))
        show (!p ^^ parT A x) = (p ^^ if a ≤ x then !(parT A x) else parT A x)
        rw [if_pos hx, flip]
      · rename_i hc
        split
        · rename_i hc2
          refine Cm.step (t := b) (ih (a :: A) p B (!q) (mcomb1 f O (b, p, !q)) (by simp at hn ⊢; omega) hA b2 (comb1_asc hO (fun o h => hOB o h b (by simp))) (comb1_lt hOA (fun x hx => by have := la x hx; dsimp only; omega)) (comb1_lt (fun o h x hx => hOB o h x (by simp [hx])) b1) (comb1_odd f O _)) ho (fun x hx => by have := la x hx; omega) lb (fun o h => hOB o h b (by simp)) (fun _ _ => rfl) (fun x hx => ?_) (fun x hx => by have := la x hx; omega) b1 (by simp only [List.length_cons]; omega) (.inr (by simp))
          show (!q ^^ parT B x) = (q ^^ if b ≤ x then !(parT B x) else parT B x)
          rw [if_pos hx, flip]
        · rename_i hc2
          have hab : a = b := by omega
          subst hab
          refine Cm.step (t := a) (ih A (!p) B (!q) (mcomb1 f O (a, !p, !q)) (by simp at hn ⊢; omega) a2 b2 (comb1_asc hO (fun o h => hOA o h a (by simp))) (comb1_lt (fun o h x hx => hOA o h x (by simp [hx])) a1) (comb1_lt (fun o h x hx => hOB o h x (by simp [hx])) b1) (comb1_odd f O _)) ho la lb (fun o h => hOA o h a (by simp)) (fun x hx => ?_) (fun x hx => ?_) a1 b1 (by simp only [List.length_cons]; omega) (.inl (by simp))
          · show (!p ^^ parT A x) = (p ^^ if a ≤ x then !(parT A x) else parT A x)
            rw [if_pos hx, flip]
          · show (!q ^^ parT B x) = (q ^^ if a ≤ x then !(parT B x) else parT B x)
            rw [if_pos hx, flip]
theorem tog_asc : ∀ {l : Iv}, NormI l → (tog l).Pairwise (· < ·) ∧ ∀ lo, (∀ x ∈ l, lo < x.1) → ∀ e ∈ tog l, lo < e
  | [], _ => ⟨.nil, fun _ _ _ h => by simp [tog] at h⟩
  | x :: l, h => by
    obtain ⟨h1, h2⟩ := tog_asc h.tail
    have e : tog (x :: l) = x.1 :: x.2 :: tog l := rfl
    have hx := h.hd.1
    have h3 := h2 x.2 h.hd.2
    rw [e]
    refine ⟨List.pairwise_cons.2 ⟨fun a ha => ?_, List.pairwise_cons.2 ⟨h3, h1⟩⟩, fun lo hlo a ha => ?_⟩
    · rcases List.mem_cons.1 ha with rfl | ha
      · exact hx
      · have := h3 a ha; omega
    · have := hlo x (by simp)
      rcases List.mem_cons.1 ha with rfl | ha
      · exact this
      · rcases List.mem_cons.1 ha with rfl | ha
        · omega
        · have := h3 a ha; omega
def spans : List Int → Iv
  | [] => []
  | [a] => [(a, 0)]
  | a :: b :: E => (a, b) :: spans E
theorem spans_len : ∀ E : List Int, (spans E).length = (E.length + 1) / 2
  | [] => rfl
  | [_] => by simp [spans]
  | a :: b :: E => by
    have := spans_len E
    simp only [spans, List.length_cons]
    omega
theorem spans_even (t : Int) : ∀ {E : List Int}, oddB E.length = false → spans (E ++ [t]) = spans E ++ [(t, 0)]
  | [], _ => rfl
  | [_], h => by simp [oddB] at h
  | a :: b :: E, h => by
    have h' : oddB E.length = false := by
      simp only [List.length_cons, oddB_succ, Bool.not_not] at h
      exact h
    show (a, b) :: spans (E ++ [t]) = _
    rw [spans_even t h']
    rfl
theorem spans_odd (t : Int) : ∀ {E : List Int}, oddB E.length = true → ∃ l a, spans E = l ++ [(a, 0)] ∧ spans (E ++ [t]) = l ++ [(a, t)]
  | [], h => by simp [oddB] at h
  | [a], _ => ⟨[], a, rfl, rfl⟩
  | a :: b :: E, h => by
    have h' : oddB E.length = true := by
      simp only [List.length_cons, oddB_succ, Bool.not_not] at h
      exact h
    obtain ⟨l, c, h1, h2⟩ := spans_odd t h'
    refine ⟨(a, b) :: l, c, ?_, ?_⟩
    · show (a, b) :: spans E = _
      rw [h1]; rfl
    · show (a, b) :: spans (E ++ [t]) = _
      rw [h2]; rfl
theorem spans_norm : ∀ {E : List Int}, oddB E.length = false → E.Pairwise (· < ·) → NormI (spans E) ∧ tog (spans E) = E
  | [], _, _ => ⟨NormI.nil, rfl⟩
  | [_], h, _ => by simp [oddB] at h
  | a :: b :: E, h, hp => by
    have h' : oddB E.length = false := by
      simp only [List.length_cons, oddB_succ, Bool.not_not] at h
      exact h
    obtain ⟨p1, p2⟩ := List.pairwise_cons.1 hp
    obtain ⟨p3, p4⟩ := List.pairwise_cons.1 p2
    obtain ⟨h1, h2⟩ := spans_norm h' p4
    refine ⟨h1.cons (p1 b (by simp)) (fun y hy => ?_), ?_⟩
    · have : y.1 ∈ tog (spans E) := by
        unfold tog
        rw [List.mem_flatMap]
        exact ⟨y, hy, by simp⟩
      rw [h2] at this
      exact p3 _ this
    · show a :: b :: tog (spans E) = _
      rw [h2]
def combI (f : Bool → Bool → Bool) (a b : Iv) : Iv := spans (mcomb f (mrg (tog a) false (tog b) false) [])
theorem combI_ok {f : Bool → Bool → Bool} (hf : f false false = false) {a b : Iv} (ha : NormI a) (hb : NormI b) : NormI (combI f a b) ∧ (∀ t, memI (combI f a b) t = f (memI a t) (memI b t)) ∧ (combI f a b).length ≤ a.length + b.length := by
  have h := comb_ok f _ (tog a) false (tog b) false [] (Nat.le_refl _) (tog_asc ha).1 (tog_asc hb).1 .nil (fun _ h => by simp at h) (fun _ h => by simp at h) hf.symm
  have hx : ∀ x, parT (mcomb f (mrg (tog a) false (tog b) false) []) x = f (memI a x) (memI b x) := fun x => by
    rw [h.hi x (fun _ h => by simp at h), parT_tog ha, parT_tog hb, Bool.false_xor, Bool.false_xor]
  have hlen := h.len
  rw [tog_len, tog_len] at hlen
  have hodd : oddB (mcomb f (mrg (tog a) false (tog b) false) []).length = false := by
    obtain ⟨B, hB⟩ : ∃ B : Int, (∀ e ∈ mcomb f (mrg (tog a) false (tog b) false) [], e ≤ B) ∧ (∀ x ∈ a, x.2 ≤ B) ∧ (∀ x ∈ b, x.2 ≤ B) := by
      have hi : ∀ E : List Int, ∃ B, ∀ e ∈ E, e ≤ B := fun E => by
        induction E with
        | nil => exact ⟨0, by simp⟩
        | cons e E ih =>
          obtain ⟨B, h⟩ := ih
          exact ⟨max B e, fun x hx => by rcases List.mem_cons.1 hx with rfl | hx; · omega
                                         · have := h x hx; omega⟩
      obtain ⟨B1, h1⟩ := hi (mcomb f (mrg (tog a) false (tog b) false) [])
      obtain ⟨B2, h2⟩ := hi (a.map Prod.snd)
      obtain ⟨B3, h3⟩ := hi (b.map Prod.snd)
      refine ⟨max B1 (max B2 B3), fun e he => ?_, fun x hx => ?_, fun x hx => ?_⟩
      · have := h1 e he; omega
      · have := h2 x.2 (List.mem_map.2 ⟨x, hx, rfl⟩); omega
      · have := h3 x.2 (List.mem_map.2 ⟨x, hx, rfl⟩); omega
    obtain ⟨h1, h2, h3⟩ := hB
    rw [← parT_all h1, hx]
    have n1 : memI a B = false := by
      cases e : memI a B with
      | false => rfl
      | true => obtain ⟨x, hx, _, h5⟩ := memI_iff.1 e; have := h2 x hx; omega
    have n2 : memI b B = false := by
      cases e : memI b B with
      | false => rfl
      | true => obtain ⟨x, hx, _, h5⟩ := memI_iff.1 e; have := h3 x hx; omega
    rw [n1, n2, hf]
  obtain ⟨h1, h2⟩ := spans_norm hodd h.asc
  refine ⟨h1, fun t => ?_, ?_⟩
  · show memI (spans (mcomb f (mrg (tog a) false (tog b) false) [])) t = _
    rw [← parT_tog h1, h2, hx]
  · unfold combI
    rw [spans_len]
    simp only [List.length_nil] at hlen
    omega
def unionI (a b : Iv) : Iv := combI (fun x y => x || y) a b
theorem unionI_eq {a b : Iv} (ha : NormI a) (hb : NormI b) : insAll a b = unionI a b := by
  obtain ⟨h1, h2, _⟩ := insAll_ok (b := b) ha hb.1
  obtain ⟨h3, h4, _⟩ := combI_ok (f := fun x y => x || y) rfl ha hb
  exact normI_ext h1 h3 (fun t => by rw [h2]; exact (h4 t).symm)
end Go.Step
/- The ends of two sets, one after the other. No program in sight. No conditions. -/
namespace Go.Step
theorem oddB_cases (p : Nat) : (oddB p = true ∧ p = 2 * (p / 2) + 1) ∨ (oddB p = false ∧ p = 2 * (p / 2)) := by
  unfold oddB
  by_cases h : p % 2 = 1
  · exact .inl ⟨decide_eq_true h, by omega⟩
  · exact .inr ⟨decide_eq_false h, by omega⟩
def nxtT (A B : List Int) (p q : Nat) : Int := if p < A.length then (if q < B.length ∧ B.getD q 0 < A.getD p 0 then B.getD q 0 else A.getD p 0) else B.getD q 0
def stp (A : List Int) (t : Int) (p : Nat) : Nat := if p < A.length ∧ A.getD p 0 = t then p + 1 else p
theorem stp_le {A : List Int} {t : Int} {p : Nat} (h : p ≤ A.length) : p ≤ stp A t p ∧ stp A t p ≤ A.length := by
  unfold stp
  split <;> omega
theorem drop_at {A : List Int} {p : Nat} (h : p < A.length) : A.drop p = A.getD p 0 :: A.drop (p + 1) := by
  rw [List.drop_eq_getElem_cons h, List.getD_eq_getElem?_getD, List.getElem?_eq_getElem h]; rfl
theorem mrg_cc (a : Int) (A : List Int) (p : Bool) (b : Int) (B : List Int) (q : Bool) : mrg (a :: A) p (b :: B) q = if a < b then (a, !p, q) :: mrg A (!p) (b :: B) q else if b < a then (b, p, !q) :: mrg (a :: A) p B (!q) else (a, !p, !q) :: mrg A (!p) B (!q) := by
  conv => lhs; unfold mrg
theorem mrg_cn (a : Int) (A : List Int) (p q : Bool) : mrg (a :: A) p [] q = (a, !p, q) :: mrg A (!p) [] q := by
  conv => lhs; unfold mrg
theorem mrg_nc (b : Int) (B : List Int) (p q : Bool) : mrg [] p (b :: B) q = (b, p, !q) :: mrg [] p B (!q) := by
  conv => lhs; unfold mrg
theorem mrg_at {A B : List Int} {p q : Nat} (hp : p ≤ A.length) (hq : q ≤ B.length) (h : p < A.length ∨ q < B.length) :
    mrg (A.drop p) (oddB p) (B.drop q) (oddB q) = (nxtT A B p q, oddB (stp A (nxtT A B p q) p), oddB (stp B (nxtT A B p q) q)) :: mrg (A.drop (stp A (nxtT A B p q) p)) (oddB (stp A (nxtT A B p q) p)) (B.drop (stp B (nxtT A B p q) q)) (oddB (stp B (nxtT A B p q) q)) := by
  by_cases h1 : p < A.length
  · by_cases h2 : q < B.length
    · rw [drop_at h1, drop_at h2, mrg_cc]
      by_cases c1 : A.getD p 0 < B.getD q 0
      · have e : nxtT A B p q = A.getD p 0 := by unfold nxtT; rw [if_pos h1, if_neg (by omega)]
        have e1 : stp A (A.getD p 0) p = p + 1 := by unfold stp; rw [if_pos ⟨h1, rfl⟩]
        have e2 : stp B (A.getD p 0) q = q := by unfold stp; rw [if_neg (by omega)]
        rw [if_pos c1, e, e1, e2, oddB_succ, drop_at h2]
      · by_cases c2 : B.getD q 0 < A.getD p 0
        · have e : nxtT A B p q = B.getD q 0 := by unfold nxtT; rw [if_pos h1, if_pos ⟨h2, c2⟩]
          have e1 : stp A (B.getD q 0) p = p := by unfold stp; rw [if_neg (by omega)]
          have e2 : stp B (B.getD q 0) q = q + 1 := by unfold stp; rw [if_pos ⟨h2, rfl⟩]
          rw [if_neg c1, if_pos c2, e, e1, e2, oddB_succ, drop_at h1]
        · have e : nxtT A B p q = A.getD p 0 := by unfold nxtT; rw [if_pos h1, if_neg (by omega)]
          have e1 : stp A (A.getD p 0) p = p + 1 := by unfold stp; rw [if_pos ⟨h1, rfl⟩]
          have e2 : stp B (A.getD p 0) q = q + 1 := by unfold stp; rw [if_pos ⟨h2, by omega⟩]
          rw [if_neg c1, if_neg c2, e, e1, e2, oddB_succ, oddB_succ]
    · have hq2 : q = B.length := by omega
      subst hq2
      have e : nxtT A B p B.length = A.getD p 0 := by unfold nxtT; rw [if_pos h1, if_neg (by omega)]
      have e1 : stp A (A.getD p 0) p = p + 1 := by unfold stp; rw [if_pos ⟨h1, rfl⟩]
      have e2 : stp B (A.getD p 0) B.length = B.length := by unfold stp; rw [if_neg (by omega)]
      rw [drop_at h1, List.drop_length, e, e1, e2, oddB_succ, List.drop_length, mrg_cn]
  · have hp2 : p = A.length := by omega
    subst hp2
    have h2 : q < B.length := by omega
    have e : nxtT A B A.length q = B.getD q 0 := by unfold nxtT; rw [if_neg h1]
    have e1 : stp A (B.getD q 0) A.length = A.length := by unfold stp; rw [if_neg (by omega)]
    have e2 : stp B (B.getD q 0) q = q + 1 := by unfold stp; rw [if_pos ⟨h2, rfl⟩]
    rw [drop_at h2, List.drop_length, e, e1, e2, oddB_succ, List.drop_length, mrg_nc]
theorem stp_go {A B : List Int} {p q : Nat} (h : p < A.length ∨ q < B.length) : p < stp A (nxtT A B p q) p ∨ q < stp B (nxtT A B p q) q := by
  by_cases h1 : p < A.length
  · by_cases h2 : q < B.length ∧ B.getD q 0 < A.getD p 0
    · have e : nxtT A B p q = B.getD q 0 := by unfold nxtT; rw [if_pos h1, if_pos h2]
      right; rw [e]; unfold stp; rw [if_pos ⟨h2.1, rfl⟩]; omega
    · have e : nxtT A B p q = A.getD p 0 := by unfold nxtT; rw [if_pos h1, if_neg h2]
      left; rw [e]; unfold stp; rw [if_pos ⟨h1, rfl⟩]; omega
  · have e : nxtT A B p q = B.getD q 0 := by unfold nxtT; rw [if_neg h1]
    right; rw [e]; unfold stp; rw [if_pos ⟨by omega, rfl⟩]; omega
theorem mrg_len : ∀ (n : Nat) (A : List Int) (p : Bool) (B : List Int) (q : Bool), A.length + B.length ≤ n → (mrg A p B q).length ≤ A.length + B.length
  | n, [], p, [], q, _ => by unfold mrg; simp
  | 0, a :: A, p, B, q, h => by simp at h
  | 0, [], p, b :: B, q, h => by simp at h
  | n + 1, a :: A, p, [], q, h => by
    rw [mrg_cn]
    have := mrg_len n A (!p) [] q (by simp at h ⊢; omega)
    simp at this ⊢
    omega
  | n + 1, [], p, b :: B, q, h => by
    rw [mrg_nc]
    have := mrg_len n [] p B (!q) (by simp at h ⊢; omega)
    simp at this ⊢
    omega
  | n + 1, a :: A, p, b :: B, q, h => by
    rw [mrg_cc]
    have h1 := mrg_len n A (!p) (b :: B) q (by simp at h ⊢; omega)
    have h2 := mrg_len n (a :: A) p B (!q) (by simp at h ⊢; omega)
    have h3 := mrg_len n A (!p) B (!q) (by simp at h ⊢; omega)
    simp at h1 h2 h3
    split
    · simp; omega
    · split <;> simp <;> omega
theorem mcomb1_len (f : Bool → Bool → Bool) (O : List Int) (e : Int × Bool × Bool) : (mcomb1 f O e).length ≤ O.length + 1 := by
  unfold mcomb1
  split
  · omega
  · simp
theorem mcomb_len (f : Bool → Bool → Bool) : ∀ (S : List (Int × Bool × Bool)) (O : List Int), (mcomb f S O).length ≤ O.length + S.length
  | [], O => by simp [mcomb]
  | e :: S, O => by
    have h1 := mcomb_len f S (mcomb1 f O e)
    have h2 := mcomb1_len f O e
    show (mcomb f S (mcomb1 f O e)).length ≤ _
    simp
    omega
theorem mcomb_next (f : Bool → Bool → Bool) {S : List (Int × Bool × Bool)} {i : Nat} {e : Int × Bool × Bool} (h : S[i]? = some e) (O : List Int) : mcomb f (S.take (i + 1)) O = mcomb1 f (mcomb f (S.take i) O) e := by
  obtain ⟨hi, rfl⟩ := List.getElem?_eq_some_iff.1 h
  rw [List.take_succ_eq_append_getElem hi]
  unfold mcomb
  rw [List.foldl_append]
  rfl
theorem mrg_end {A B : List Int} {p q : Bool} : mrg (A.drop A.length) p (B.drop B.length) q = [] := by
  rw [List.drop_length, List.drop_length]
  unfold mrg
  rfl
theorem drop_head {α : Type} {S : List α} {k : Nat} {x : α} {r : List α} (h : S.drop k = x :: r) : S[k]? = some x ∧ S.drop (k + 1) = r ∧ k < S.length := by
  have hk : k < S.length := by
    apply Nat.lt_of_not_le
    intro hc
    rw [List.drop_eq_nil_of_le hc] at h
    simp at h
  rw [List.drop_eq_getElem_cons hk, List.cons.injEq] at h
  exact ⟨by rw [List.getElem?_eq_getElem hk, h.1], h.2, hk⟩
end Go.Step
/- Free spans of contacts, and their ticks. No program in sight. No conditions. -/
namespace Go.Step
theorem bks_apart {cs : List Ct} {l : List Bk} (h : firstE (bkE cs l) l.length = 0) : l.Pairwise (fun x y => x.c < y.c ∨ (x.c = y.c ∧ x.b ≤ y.a)) := by
  have hok := bkE_ok h
  have hlt : ∀ x ∈ l, x.a < x.b := fun x hx => by
    obtain ⟨_, c, _, _, h2, _⟩ := hok x hx
    exact h2
  have hstep : ∀ i, (hi : i + 1 < l.length) → l[i].c < l[i + 1].c ∨ (l[i].c = l[i + 1].c ∧ l[i].b ≤ l[i + 1].a) := fun i hi => by
    have h2 := firstE_zero h (i + 1) hi
    rw [bkE_at (List.getElem?_eq_getElem hi)] at h2
    split at h2
    · omega
    rw [if_neg (by omega)] at h2
    rw [Nat.add_sub_cancel, List.getD_eq_getElem?_getD, List.getElem?_eq_getElem (by omega), Option.getD_some] at h2
    unfold bk2E at h2
    split at h2
    · omega
    rename_i h3
    split at h2
    · omega
    rename_i h4
    have h5 := (cmpBk_lt _ _).1 (Decidable.not_not.1 h3)
    omega
  rw [List.pairwise_iff_getElem]
  intro i j hi hj hij
  obtain ⟨k, rfl⟩ : ∃ k, j = i + 1 + k := ⟨j - i - 1, by omega⟩
  induction k with
  | zero => exact hstep i hj
  | succ k ih =>
    have h1 := ih (by omega) (by omega)
    have h2 := hstep (i + 1 + k) (by omega)
    have h3 := hlt _ (List.getElem_mem (show i + 1 + k < l.length by omega))
    have e : i + 1 + (k + 1) = i + 1 + k + 1 := by omega
    simp only [e]
    omega
theorem busy_apart {cs : List Ct} {l : List Bk} (h : firstE (bkE cs l) l.length = 0) (c : Int) : (busyL l c).Pairwise (fun x y => x.2 ≤ y.1) := by
  unfold busyL
  rw [List.pairwise_map]
  refine ((bks_apart h).filter _).imp_of_mem (fun {x y} hx hy hxy => ?_)
  have h1 := of_decide_eq_true (List.mem_filter.1 hx).2
  have h2 := of_decide_eq_true (List.mem_filter.1 hy).2
  dsimp only
  omega
theorem busy_in {cs : List Ct} {l : List Bk} (h : firstE (bkE cs l) l.length = 0) {i : Nat} {c : Ct} (hc : cs[i]? = some c) : ∀ x ∈ busyL l i, c.s ≤ x.1 ∧ x.1 < x.2 ∧ x.2 ≤ c.e := fun x hx => by
  unfold busyL at hx
  obtain ⟨y, hy, rfl⟩ := List.mem_map.1 hx
  obtain ⟨hy1, hy2⟩ := List.mem_filter.1 hy
  have h2 := of_decide_eq_true hy2
  obtain ⟨_, c', e, h3⟩ := bkE_ok h y hy1
  rw [h2, Int.toNat_natCast, hc] at e
  obtain rfl := Option.some.inj e
  exact h3
def gapsP (e : Int) : Int → List (Int × Int) → List (Int × Int)
  | a, [] => if a < e then [(a, e)] else []
  | a, x :: l => (if a < x.1 then [(a, x.1)] else []) ++ gapsP e x.2 l
theorem gapsP_len (e : Int) : ∀ (l : List (Int × Int)) (a : Int), (gapsP e a l).length ≤ l.length + 1
  | [], a => by unfold gapsP; split <;> simp
  | x :: l, a => by
    have := gapsP_len e l x.2
    unfold gapsP
    rw [List.length_append, List.length_cons]
    split <;> simp <;> omega
theorem gapsP_ok {e : Int} : ∀ {l : List (Int × Int)} {a : Int}, (∀ x ∈ l, a ≤ x.1 ∧ x.1 < x.2 ∧ x.2 ≤ e) → l.Pairwise (fun x y => x.2 ≤ y.1) → NormI (gapsP e a l) ∧ (∀ z ∈ gapsP e a l, a ≤ z.1 ∧ z.2 ≤ e) ∧ ∀ t, memI (gapsP e a l) t = (decide (a ≤ t ∧ t < e) && !(memI l t))
  | [], a, _, _ => by
    unfold gapsP
    by_cases h : a < e
    · rw [if_pos h]
      refine ⟨NormI.nil.cons h (by simp), fun z hz => ?_, fun t => ?_⟩
      · rw [List.mem_singleton.1 hz]
        exact ⟨Int.le_refl _, Int.le_refl _⟩
      · simp [memI, inSp]
    · rw [if_neg h]
      refine ⟨NormI.nil, by simp, fun t => ?_⟩
      rw [decide_eq_false (by omega)]
      simp [memI]
  | x :: l, a, hb, hp => by
    obtain ⟨p1, p2⟩ := List.pairwise_cons.1 hp
    obtain ⟨h1, h2, h3⟩ := hb x (by simp)
    obtain ⟨k1, k2, k3⟩ := gapsP_ok (e := e) (l := l) (a := x.2) (fun y hy => ⟨p1 y hy, (hb y (by simp [hy])).2⟩) p2
    unfold gapsP
    have hm : ∀ t, memI l t = true → x.2 ≤ t := fun t ht => by
      obtain ⟨y, hy, h4, _⟩ := memI_iff.1 ht
      have := p1 y hy
      omega
    have hx : ∀ t, inSp t x = decide (x.1 ≤ t ∧ t < x.2) := fun t => by rw [Bool.eq_iff_iff, inSp_iff, decide_eq_true_eq]
    by_cases h : a < x.1
    · rw [if_pos h, List.singleton_append]
      refine ⟨k1.cons h (fun z hz => ?_), fun z hz => ?_, fun t => ?_⟩
      · have := k2 z hz
        dsimp only
        omega
      · rcases List.mem_cons.1 hz with rfl | hz
        · dsimp only; omega
        · have := k2 z hz; omega
      · rw [memI_cons, memI_cons, k3, hx]
        have e1 : inSp t (a, x.1) = decide (a ≤ t ∧ t < x.1) := by rw [Bool.eq_iff_iff, inSp_iff, decide_eq_true_eq]
        rw [e1]
        have hmt := hm t
        cases hml : memI l t with
        | true =>
          have := hmt hml
          rw [decide_eq_false (show ¬ (a ≤ t ∧ t < x.1) by omega)]
          simp
        | false =>
          simp only [Bool.not_false, Bool.and_true, Bool.or_false]
          rw [Bool.eq_iff_iff]
          simp only [Bool.or_eq_true, Bool.and_eq_true, decide_eq_true_eq, Bool.not_eq_true', decide_eq_false_iff_not]
          omega
    · rw [if_neg h, List.nil_append]
      refine ⟨k1, fun z hz => by have := k2 z hz; omega, fun t => ?_⟩
      rw [memI_cons, k3, hx]
      have hmt := hm t
      cases hml : memI l t with
      | true =>
        have := hmt hml
        simp
      | false =>
        simp only [Bool.not_false, Bool.and_true, Bool.or_false]
        rw [Bool.eq_iff_iff]
        simp only [Bool.and_eq_true, decide_eq_true_eq, Bool.not_eq_true', decide_eq_false_iff_not]
        omega
def freeC (cs : List Ct) (bs : List Bk) (i : Nat) : List (Int × Int) := match cs[i]? with
  | some c => gapsP c.e c.s (busyL bs i)
  | none => []
theorem freeC_ok {cs : List Ct} {bs : List Bk} (h : firstE (bkE cs bs) bs.length = 0) {i : Nat} {c : Ct} (hc : cs[i]? = some c) : NormI (freeC cs bs i) ∧ (∀ z ∈ freeC cs bs i, c.s ≤ z.1 ∧ z.2 ≤ c.e) ∧ ∀ t, memI (freeC cs bs i) t = (decide (c.s ≤ t ∧ t < c.e) && !(bookedB bs i t)) := by
  have hf : freeC cs bs i = gapsP c.e c.s (busyL bs i) := by unfold freeC; rw [hc]
  rw [hf]
  exact gapsP_ok (busy_in h hc) (busy_apart h i)
def rngI (a b : Int) : List Int := (List.range (b - a).toNat).map (fun k : Nat => a + k)
theorem mem_rngI {a b t : Int} : t ∈ rngI a b ↔ a ≤ t ∧ t < b := by
  unfold rngI
  rw [List.mem_map]
  constructor
  · rintro ⟨k, hk, rfl⟩
    rw [List.mem_range] at hk
    omega
  · rintro ⟨h1, h2⟩
    exact ⟨(t - a).toNat, by rw [List.mem_range]; omega, by omega⟩
theorem rngI_asc (a b : Int) : (rngI a b).Pairwise (· < ·) := by
  unfold rngI
  rw [List.pairwise_map]
  exact List.pairwise_lt_range.imp (fun {x y} h => by omega)
theorem rngI_len (a b : Int) : (rngI a b).length = (b - a).toNat := by simp [rngI]
theorem rngI_nil {a b : Int} (h : b ≤ a) : rngI a b = [] := by
  unfold rngI
  rw [show (b - a).toNat = 0 by omega]
  rfl
theorem rngI_get {a b : Int} {k : Nat} (h : (k : Int) < b - a) : (rngI a b)[k]? = some (a + k) := by
  unfold rngI
  rw [List.getElem?_map, List.getElem?_range (by omega)]
  rfl
theorem rngI_snoc {a b : Int} (h : a ≤ b) : rngI a (b + 1) = rngI a b ++ [b] := by
  unfold rngI
  rw [show (b + 1 - a).toNat = (b - a).toNat + 1 by omega, List.range_succ, List.map_append]
  congr 1
  simp
  omega
theorem asc_ext : ∀ {a b : List Int}, a.Pairwise (· < ·) → b.Pairwise (· < ·) → (∀ t, t ∈ a ↔ t ∈ b) → a = b
  | [], [], _, _, _ => rfl
  | [], y :: b, _, _, h => by have := (h y).2 (by simp); simp at this
  | x :: a, [], _, _, h => by have := (h x).1 (by simp); simp at this
  | x :: a, y :: b, ha, hb, h => by
    obtain ⟨a1, a2⟩ := List.pairwise_cons.1 ha
    obtain ⟨b1, b2⟩ := List.pairwise_cons.1 hb
    have e : x = y := by
      have h1 := (h x).1 (by simp)
      have h2 := (h y).2 (by simp)
      rcases List.mem_cons.1 h1 with h1 | h1
      · exact h1
      · rcases List.mem_cons.1 h2 with h2 | h2
        · exact h2.symm
        · have := b1 x h1
          have := a1 y h2
          omega
    subst e
    congr 1
    refine asc_ext a2 b2 (fun t => ⟨fun ht => ?_, fun ht => ?_⟩)
    · have h1 := (h t).1 (by simp [ht])
      rcases List.mem_cons.1 h1 with rfl | h1
      · have := a1 t ht; omega
      · exact h1
    · have h1 := (h t).2 (by simp [ht])
      rcases List.mem_cons.1 h1 with rfl | h1
      · have := b1 t ht; omega
      · exact h1
def tickS (r e g : Int) (x : Int × Int) : List Int := rngI (max x.1 r) (min x.2 (e - g))
def tickL (r e g : Int) (l : List (Int × Int)) : List Int := l.flatMap (tickS r e g)
theorem mem_tickL {r e g t : Int} {l : List (Int × Int)} : t ∈ tickL r e g l ↔ memI l t = true ∧ r ≤ t ∧ t + g < e := by
  unfold tickL tickS
  rw [List.mem_flatMap, memI_iff]
  constructor
  · rintro ⟨x, hx, h⟩
    rw [mem_rngI] at h
    exact ⟨⟨x, hx, by omega, by omega⟩, by omega, by omega⟩
  · rintro ⟨⟨x, hx, h1, h2⟩, h3, h4⟩
    exact ⟨x, hx, by rw [mem_rngI]; omega⟩
theorem tickL_asc {r e g : Int} : ∀ {l : List (Int × Int)}, NormI l → (tickL r e g l).Pairwise (· < ·)
  | [], _ => .nil
  | x :: l, h => by
    have ih := tickL_asc (r := r) (e := e) (g := g) h.tail
    show (tickS r e g x ++ tickL r e g l).Pairwise (· < ·)
    rw [List.pairwise_append]
    refine ⟨rngI_asc _ _, ih, fun a ha b hb => ?_⟩
    have h1 := (mem_tickL.1 hb).1
    have h2 := memI_lo2 h h1
    unfold tickS at ha
    rw [mem_rngI] at ha
    omega
end Go.Step
/- Joins and meets of cuts: submodular. No program in sight. No conditions. -/
namespace Go.Step
theorem stored_none {n t : Int} : ∀ {l : List Hd}, (∀ g ∈ l, g.n = n → ¬ (g.a ≤ t ∧ t < g.b)) → stored l n t = 0
  | [], _ => rfl
  | h :: l, hh => by
    unfold stored
    rw [stored_none (fun g hg => hh g (by simp [hg])), if_neg (fun hc => hh h (by simp) hc.1 hc.2)]
    rfl
theorem fits_all {l : List Hd} {nq : Nat} (hok : ∀ h ∈ l, okHd nq h) {n Q t : Int} (hQ : 0 ≤ Q) (hf : ∀ h ∈ l, h.n = n → stored l n h.a ≤ Q) : stored l n t ≤ Q := by
  rcases last_active (n := n) (t := t) l with h | ⟨h, hm, hn, ha, hlast⟩
  · rw [stored_none h]; exact hQ
  · refine Int.le_trans (stored_mono (s := h.a) (fun g hg => ⟨?_, fun h1 h2 h3 => ⟨hlast g hg h1 h2 h3, by omega⟩⟩)) (hf h hm hn)
    have := (hok g hg).2.2.1
    omega
theorem fit_of {qs : List Int} {cs : List Ct} {hs : List Hd} (h : chkH qs cs hs = 0) : fitB qs hs = true := by
  unfold chkH at h
  split at h
  · omega
  split at h
  · omega
  split at h
  · rename_i h1; exact absurd h h1
  split at h
  · assumption
  · omega
theorem room_nonneg {qs : List Int} {hs : List Hd} (hquo : ∀ (j : Nat) (q : Int), qs[j]? = some q → 0 ≤ q ∧ q ≤ 1073741824) (hok : ∀ h ∈ hs, okHd qs.length h) (hfit : fitB qs hs = true) (d : Dm) (n : Nat) (hn : n < qs.length) (t : Int) : 0 ≤ roomT qs hs d n t := by
  unfold roomT
  split
  · omega
  have hx := List.getElem?_eq_getElem hn
  have hq := hquo n _ hx
  rw [Int.toNat_natCast, List.getD_eq_getElem?_getD, hx, Option.getD_some]
  have hf := List.all_eq_true.1 hfit
  have := fits_all (n := (n : Int)) (t := t) hok hq.1 (fun h hh hn' => by
    have h2 := of_decide_eq_true (hf h hh)
    rw [hn', Int.toNat_natCast, List.getD_eq_getElem?_getD, hx, Option.getD_some] at h2
    exact h2)
  omega
def SetsC (c : Cu) : Prop := ∀ l ∈ c, chkI l = 0 ∧ l.length ≤ 500
theorem SetsC.at {c : Cu} (h : SetsC c) (n : Int) : chkI (cuAt c n) = 0 ∧ (cuAt c n).length ≤ 500 := by
  unfold cuAt
  rw [List.getD_eq_getElem?_getD]
  cases e : c[n.toNat]? with
  | none => exact ⟨by decide, by simp⟩
  | some l => exact h l (List.mem_of_getElem? e)
theorem norm_in {l : Iv} (h : NormI l) {lo hi : Int} : (∀ t, memI l t = true → lo ≤ t ∧ t < hi) → ∀ x ∈ l, lo ≤ x.1 ∧ x.2 ≤ hi := fun hm x hx => by
  have h1 := h.1 x hx
  have a := hm x.1 (memI_iff.2 ⟨x, hx, by omega, h1⟩)
  have b := hm (x.2 - 1) (memI_iff.2 ⟨x, hx, by omega, by omega⟩)
  omega
end Go.Step
