/- Texts of this proof, one after the other; no conditions. -/
import Derived.Test.YthdoegkjifgegaaGreatWB10
import Derived.Test.YthdoegkjifgegaaGreatWB2
import Derived.Test.YthdoegkjifgegaaGreatWB4
import Derived.Test.YthdoegkjifgegaaGreatWB7
import Derived.Test.YthdoegkjifgegaaGreatWB5
set_option linter.all false
/- Where a node can store more, of the program. -/
namespace Go.Proofs.YthdoegkjifgegaaGreat
open Go.Eng Go.Step
set_option maxRecDepth 100000
set_option maxHeartbeats 4000000

def endO (fr t : Int) (out : List (Int × Int)) : List (Int × Int) := if 0 ≤ fr ∧ fr < t then out ++ [(fr, t)] else out
set_option maxHeartbeats 16000000 in
theorem end_spec (bf bo : Nat) (fr t : Int) (u : Value) (out : List (Int × Int)) (σ : PH) (hO : OwnS 61 2 u out.length (out.flatMap encS) σ) (hl : out.length ≤ 100000) :
  Eng.Spec Tryz.prog (.func (.func 66) #[] #[.pointer (some ⟨bf, 0, none⟩), .pointer (some ⟨bo, 0, none⟩)]) [int t] [] [sng bf (.cells #[int fr] 3 (0, 0)), sng bo (.cells #[u] 59 (0, 0)), σ]
   (fun r H' => r = .tuple #[] ∧ ∃ u' σ', OwnS 61 2 u' (endO fr t out).length ((endO fr t out).flatMap encS) σ' ∧ H' = [sng bf (.cells #[int (-1)] 3 (0, 0)), sng bo (.cells #[u'] 59 (0, 0)), σ']) := by
 obtain ⟨pu, cu, rfl⟩ := SlAt.cap hO.at
 refine spec_in (cap := [.pointer (some ⟨bf, 0, none⟩), .pointer (some ⟨bo, 0, none⟩)]) Tryz.func66 rfl rfl Tryz.ntmps66 rfl envZ (fun N β => ?_)
 unfold endO
 by_cases h1 : 0 ≤ fr
 ·by_cases h2 : fr < t
  ·rw [if_pos ⟨h1, h2⟩]
   refine AD ?_
   refine AD ?_
   refine AA ?_
   refine AF ?_
   refine B4 ?_
   refine AB ?_
   refine AF ?_
   refine AB ?_
   refine BD ?_
   refine AK ?_
   refine AE ?_
   refine AP rfl ?_
   refine AA ?_
   refine AF ?_
   refine AF ?_
   refine AB ?_
   refine BS ?_
   refine BH ?_; rintro _ _ ⟨b, rfl, rfl⟩
   refine BJ (CA (by_ := 16) (s := 2) (news := [int fr, int t]) rfl rfl rfl rfl rfl rfl rfl hO takeZ (cells_own memZ) rfl (by (repeat (first | exact (fun v hv => absurd hv List.not_mem_nil) | (refine List.forall_mem_cons.2 ⟨?_, ?_⟩; (focus (first | exact rfl | assumption))))); first | done | fail) (by omega) (by simp only [maxLen]; omega) (by omega)) rfl rfl rfl ?_
   rintro u1 _ ⟨σ1, hO1, rfl⟩
   have hu1 : u1.oneCell' = true := by obtain ⟨p, c, rfl⟩ := SlAt.cap hO1.at; rfl
   refine A4 ?_; rintro _ _ ⟨rfl, rfl⟩
   refine AE ?_
   refine AA ?_
   refine A4 ?_; rintro _ _ ⟨rfl, rfl⟩
   refine AE ?_
   refine BO (res0 rfl) rsubZ selZ ⟨rfl, u1, σ1, ?_, rfl⟩
   rw [List.length_append, List.flatMap_append]
   exact hO1
  ·rw [if_neg (by omega)]
   refine AD ?_
   refine AD ?_
   refine AA ?_
   refine AF ?_
   refine B4 ?_
   refine AB ?_
   refine AF ?_
   refine AB ?_
   refine AW ?_
   refine AK ?_
   refine AE ?_
   refine AM rfl ?_
   refine AL ?_
   refine AA ?_
   refine A4 ?_; rintro _ _ ⟨rfl, rfl⟩
   refine AE ?_
   exact BO (res0 rfl) rsubZ selZ ⟨rfl, _, _, hO, rfl⟩
 ·rw [if_neg (by omega)]
  refine AD ?_
  refine AD ?_
  refine AA ?_
  refine AF ?_
  refine BE ?_
  refine AB ?_
  refine AG rfl rfl rfl ?_
  refine AG rfl rfl rfl ?_
  refine AG rfl rfl rfl ?_
  refine AJ ?_
  refine AE ?_
  refine AM rfl ?_
  refine AL ?_
  refine AA ?_
  refine A4 ?_; rintro _ _ ⟨rfl, rfl⟩
  refine AE ?_
  exact BO (res0 rfl) rsubZ selZ ⟨rfl, _, _, hO, rfl⟩
def fnEnd (bf bo : Nat) : Value := .func (.func 66) #[] #[.pointer (some ⟨bf, 0, none⟩), .pointer (some ⟨bo, 0, none⟩)]
set_option maxHeartbeats 16000000 in
theorem at_spec (ρ : PH) (b4 b6 b7 b12 bf bo : Nat) (w : Value) (pq : Option Addr) (kq : Nat) (qs : List Int) (nn : Nat) (Q s fr t x : Int) (u : Value) (out : List (Int × Int)) (σ : PH) (hq : IntsAt ρ (.slice pq qs.length kq) qs) (hQ : qs[nn]? = some Q) (hQb : 0 ≤ Q ∧ Q ≤ 1073741824) (hx : 0 ≤ x ∧ x ≤ 1099511627776)
  (hO : OwnS 61 2 u out.length (out.flatMap encS) σ) (hl : out.length ≤ 100000) :
  Eng.Spec Tryz.prog (.func (.func 67) #[] #[.pointer (some ⟨b4, 0, none⟩), .pointer (some ⟨b6, 0, none⟩), .pointer (some ⟨b7, 0, none⟩), .pointer (some ⟨b12, 0, none⟩), .pointer (some ⟨bf, 0, none⟩)]) [int t, int x]
   [ρ, sng b4 (.cells #[.slice pq qs.length kq, w] 25 (0, 0)), sng b6 (.cells #[int nn] 3 (0, 0)), sng b7 (.cells #[int s] 3 (0, 0)), sng b12 (.cells #[fnEnd bf bo] 139 (0, 0))]
   [sng bf (.cells #[int fr] 3 (0, 0)), sng bo (.cells #[u] 59 (0, 0)), σ]
   (fun r H' => r = .tuple #[] ∧ ∃ u' σ', OwnS 61 2 u' (frA Q s (fr, out) t x).2.length ((frA Q s (fr, out) t x).2.flatMap encS) σ' ∧ H' = [sng bf (.cells #[int (frA Q s (fr, out) t x).1] 3 (0, 0)), sng bo (.cells #[u'] 59 (0, 0)), σ']) := by
 obtain ⟨_, _, e, hrq⟩ := hq.val Eng.encI_len
 simp only [Value.slice.injEq] at e
 obtain ⟨rfl, _, rfl⟩ := e
 have hnl := (List.getElem?_eq_some_iff.1 hQ).1
 obtain ⟨bq, oq, rfl, gq⟩ := hrq.int hQ
 refine spec_in (cap := [.pointer (some ⟨b4, 0, none⟩), .pointer (some ⟨b6, 0, none⟩), .pointer (some ⟨b7, 0, none⟩), .pointer (some ⟨b12, 0, none⟩), .pointer (some ⟨bf, 0, none⟩)]) Tryz.func67 rfl rfl Tryz.ntmps67 rfl envZ (fun N β => ?_)
 have c4 : rdc (sng b4 (.cells #[.slice (some ⟨bq, oq, none⟩) qs.length kq, w] 25 (0, 0))) b4 0 = some (.slice (some ⟨bq, oq, none⟩) qs.length kq) := by rw [rdc_sng]; rfl
 have c6 : rdc (sng b6 (.cells #[int nn] 3 (0, 0))) b6 0 = some (int nn) := by rw [rdc_sng]; rfl
 have c7 : rdc (sng b7 (.cells #[int s] 3 (0, 0))) b7 0 = some (int s) := by rw [rdc_sng]; rfl
 have c12 : rdc (sng b12 (.cells #[fnEnd bf bo] 139 (0, 0))) b12 0 = some (fnEnd bf bo) := by rw [rdc_sng]; rfl
 unfold frA
 dsimp only
 refine AD ?_
 refine A5 (.q 0 (.q 1 (.q 2 (.q 3 (.q 4 (.q 5 (.q 6 (.q 7 (.q 8 .nil))))))))) _ rfl (by kernel_rfl) Sel.refl ?_
 by_cases hc : Q - x < s
 ·rw [if_pos hc]
  refine AU ?_
  refine AO ?_
  refine AO ?_
  refine CG ?_
  refine AO ?_
  refine AT ?_
  refine DM ?_
  refine AO ?_
  refine FG ?_
  refine A7 ?_
  refine AP rfl ?_
  refine AA ?_
  refine AF ?_
  refine AB ?_
  refine BB (end_spec bf bo fr t u out σ hO hl) rfl rfl takesZ (fun τ hτ => by simp at hτ) rfl rfl ?_
  rintro _ _ ⟨rfl, u1, σ1, hO1, rfl⟩
  refine AE ?_
  exact BO (res0 rfl) rsubZ selZ ⟨rfl, u1, σ1, hO1, rfl⟩
 ·rw [if_neg hc]
  by_cases hf : fr < 0
  ·rw [if_pos hf]
   refine AU ?_
   refine AO ?_
   refine AO ?_
   refine CG ?_
   refine AO ?_
   refine AT ?_
   refine DM ?_
   refine AO ?_
   refine DQ ?_
   refine A7 ?_
   refine AM rfl ?_
   refine AD ?_
   refine AA ?_
   refine AF ?_
   refine BD ?_
   refine AE ?_
   refine AP rfl ?_
   refine AA ?_
   refine AB ?_
   refine A4 ?_; rintro _ _ ⟨rfl, rfl⟩
   refine AE ?_
   exact BO (res0 rfl) rsubZ selZ ⟨rfl, _, _, hO, rfl⟩
  ·rw [if_neg hf]
   refine AU ?_
   refine AO ?_
   refine AO ?_
   refine CG ?_
   refine AO ?_
   refine AT ?_
   refine DM ?_
   refine AO ?_
   refine DQ ?_
   refine A7 ?_
   refine AM rfl ?_
   refine AD ?_
   refine AA ?_
   refine AF ?_
   refine AW ?_
   refine AE ?_
   refine AM rfl ?_
   refine AL ?_
   exact BO (res0 rfl) rsubZ selZ ⟨rfl, _, _, hO, rfl⟩
end Go.Proofs.YthdoegkjifgegaaGreat
/- Where a node can store more, of the program: Free. -/
namespace Go.Proofs.YthdoegkjifgegaaGreat
open Go.Eng Go.Step
set_option maxRecDepth 100000
set_option maxHeartbeats 4000000

set_option maxHeartbeats 16000000 in
theorem free_spec (ρ τ σ : PH) (pq pc : Option Addr) (kq kc : Nat) (qs : List Int) (cs : List Ct) (v : Value) (l : List Hd) (n s : Int) (hq : IntsAt ρ (.slice pq qs.length kq) qs) (hc : CtAt τ (.slice pc cs.length kc) cs) (hcap : cs.length ≤ kc) (lq : qs.length ≤ 9223372036854775807) (lc : cs.length ≤ 9223372036854775807) (hv : HdAt σ v l) (hl : l.length ≤ 9223372036854775807) :
  Makes Tryz.prog (fv 30) [.agg #[.slice pq qs.length kq, .slice pc cs.length kc], v, int n, int s] [ρ, τ, σ] (fun r σ' => ∃ u, r = .tuple #[u, int (freeRes qs cs l n s).2] ∧ OwnS 61 2 u (freeRes qs cs l n s).1.length ((freeRes qs cs l n s).1.flatMap encS) σ') := by
 have hv2 := hv
 obtain ⟨q, c, rfl, hr⟩ := hv.val encH_len
 refine spec_in (cap := []) Tryz.func30 rfl rfl Tryz.ntmps30 rfl envZ (fun N β => ?_)
 refine B9 ?_
 refine AD ?_
 refine AA ?_
 refine BJ (BN rfl) rfl rfl rfl ?_
 rintro _ _ ⟨b4, rfl, rfl⟩
 refine AR (ρ := sng b4 _) takeZ ?_
 have c1 : RdN (sng b4 (.cells #[.slice pq qs.length kq, .slice pc cs.length kc] 25 (0, 0))) b4 0 [.slice pq qs.length kq, .slice pc cs.length kc] := fun j u hu => by rw [rdc_sng, Nat.zero_add]; simpa using hu
 have c10 : rdc (sng b4 (.cells #[.slice pq qs.length kq, .slice pc cs.length kc] 25 (0, 0))) b4 0 = some (.slice pq qs.length kq) := by rw [rdc_sng]; rfl
 refine BJ (CP rfl rfl) rfl rfl rfl ?_
 rintro _ _ ⟨b6, rfl, rfl⟩
 refine AR (ρ := sng b6 _) takeZ ?_
 have c6 : rdc (sng b6 (.cells #[int n] 3 (0, 0))) b6 0 = some (int n) := by rw [rdc_sng]; rfl
 refine BJ (CP rfl rfl) rfl rfl rfl ?_
 rintro _ _ ⟨b7, rfl, rfl⟩
 refine AR (ρ := sng b7 _) takeZ ?_
 have c7 : rdc (sng b7 (.cells #[int s] 3 (0, 0))) b7 0 = some (int s) := by rw [rdc_sng]; rfl
 refine AC ?_
 refine AC ?_
 refine AE ?_
 refine AD ?_
 refine AD ?_
 refine AA ?_
 refine AS ?_
 refine AB ?_
 refine A2 (check28_spec ρ τ σ pq pc kq kc qs cs _ l hq hc hcap lq lc hv2 hl) rfl rfl rdZ rfl rfl ?_
 rintro _ rfl
 by_cases h0 : chkH qs cs l = 0
 rotate_left
 ·have hR : freeRes qs cs l n s = ([], 1) := by unfold freeRes; rw [if_pos h0]
  rw [hR]
  generalize chkH qs cs l = z at h0
  refine CV ?_
  refine AE ?_
  refine AP rfl ?_
  refine AD ?_
  refine AA ?_
  refine AC ?_
  refine AC ?_
  refine AE ?_
  exact AI (res2 rfl rfl rfl) rsubZ selZ ⟨emp, ⟨_, rfl, OwnS.nil _ _⟩, rfl⟩
 rw [h0]
 obtain ⟨hok, hlen, hql⟩ := chkH_ok h0
 by_cases hbad : n < 0 ∨ (qs.length : Int) ≤ n ∨ s < 1 ∨ 65536 < s
 ·have hR : freeRes qs cs l n s = ([], 2) := by unfold freeRes; rw [if_neg (fun h => h h0), if_pos hbad]
  rw [hR]
  by_cases k1 : n < 0
  ·refine BA ?_
   refine AE ?_
   refine AM rfl ?_
   refine AL ?_
   refine AD ?_
   refine AD ?_
   refine AA ?_
   refine AF ?_
   refine BD ?_
   refine AB ?_
   refine AG rfl rfl rfl ?_
   refine AG rfl rfl rfl ?_
   refine AG rfl rfl rfl ?_
   refine AG rfl rfl rfl ?_
   refine AG rfl rfl rfl ?_
   refine AK ?_
   refine AB ?_
   refine AG rfl rfl rfl ?_
   refine AG rfl rfl rfl ?_
   refine AK ?_
   refine AB ?_
   refine AG rfl rfl rfl ?_
   refine AG rfl rfl rfl ?_
   refine AK ?_
   refine AE ?_
   refine AP rfl ?_
   refine AD ?_
   refine AA ?_
   refine AC ?_
   refine AC ?_
   refine AE ?_
   exact AI (res2 rfl rfl rfl) rsubZ selZ ⟨emp, ⟨_, rfl, OwnS.nil _ _⟩, rfl⟩
  by_cases k2 : (qs.length : Int) ≤ n
  ·refine BA ?_
   refine AE ?_
   refine AM rfl ?_
   refine AL ?_
   refine AD ?_
   refine AD ?_
   refine AA ?_
   refine AF ?_
   refine AW ?_
   refine AB ?_
   refine AF ?_
   refine AH ?_
   refine AF ?_
   refine A0 ?_
   refine B4 ?_
   refine AJ ?_
   refine AB ?_
   refine AG rfl rfl rfl ?_
   refine AG rfl rfl rfl ?_
   refine AK ?_
   refine AB ?_
   refine AG rfl rfl rfl ?_
   refine AG rfl rfl rfl ?_
   refine AK ?_
   refine AE ?_
   refine AP rfl ?_
   refine AD ?_
   refine AA ?_
   refine AC ?_
   refine AC ?_
   refine AE ?_
   exact AI (res2 rfl rfl rfl) rsubZ selZ ⟨emp, ⟨_, rfl, OwnS.nil _ _⟩, rfl⟩
  by_cases k3 : s < 1
  ·refine BA ?_
   refine AE ?_
   refine AM rfl ?_
   refine AL ?_
   refine AD ?_
   refine AD ?_
   refine AA ?_
   refine AF ?_
   refine AW ?_
   refine AB ?_
   refine AF ?_
   refine AH ?_
   refine AF ?_
   refine A0 ?_
   refine BE ?_
   refine AJ ?_
   refine AB ?_
   refine AF ?_
   refine BD ?_
   refine AJ ?_
   refine AB ?_
   refine AG rfl rfl rfl ?_
   refine AG rfl rfl rfl ?_
   refine AK ?_
   refine AE ?_
   refine AP rfl ?_
   refine AD ?_
   refine AA ?_
   refine AC ?_
   refine AC ?_
   refine AE ?_
   exact AI (res2 rfl rfl rfl) rsubZ selZ ⟨emp, ⟨_, rfl, OwnS.nil _ _⟩, rfl⟩
  ·refine BA ?_
   refine AE ?_
   refine AM rfl ?_
   refine AL ?_
   refine AD ?_
   refine AD ?_
   refine AA ?_
   refine AF ?_
   refine AW ?_
   refine AB ?_
   refine AF ?_
   refine AH ?_
   refine AF ?_
   refine A0 ?_
   refine BE ?_
   refine AJ ?_
   refine AB ?_
   refine AF ?_
   refine AW ?_
   refine AJ ?_
   refine AB ?_
   refine AF ?_
   refine CS ?_
   refine AJ ?_
   refine AE ?_
   refine AP rfl ?_
   refine AD ?_
   refine AA ?_
   refine AC ?_
   refine AC ?_
   refine AE ?_
   exact AI (res2 rfl rfl rfl) rsubZ selZ ⟨emp, ⟨_, rfl, OwnS.nil _ _⟩, rfl⟩
 have hR : freeRes qs cs l n s = (freeP (qs.getD n.toNat 0) s (lvH l n), 0) := by unfold freeRes; rw [if_neg (fun h => h h0), if_neg hbad]
 rw [hR]
 obtain ⟨nn, rfl⟩ := Int.eq_ofNat_of_zero_le (show 0 ≤ n by omega)
 have hQ := List.getElem?_eq_getElem (show nn < qs.length by omega)
 have hgd : qs.getD (nn : Int).toNat 0 = qs[nn] := by rw [Int.toNat_natCast, List.getD_eq_getElem?_getD, hQ]; rfl
 rw [hgd]
 have hQb := (chkPl_quo (chkH_pl h0)).2 nn _ hQ
 generalize qs[nn] = Q at hQ hQb
 refine BA ?_
 refine AE ?_
 refine AM rfl ?_
 refine AL ?_
 refine AD ?_
 refine AD ?_
 refine AA ?_
 refine AF ?_
 refine AW ?_
 refine AB ?_
 refine AF ?_
 refine AH ?_
 refine AF ?_
 refine A0 ?_
 refine BE ?_
 refine AJ ?_
 refine AB ?_
 refine AF ?_
 refine AW ?_
 refine AJ ?_
 refine AB ?_
 refine AF ?_
 refine BT ?_
 refine AJ ?_
 refine AE ?_
 refine AM rfl ?_
 refine AL ?_
 refine AD ?_
 refine AA ?_
 refine BK ?_; rintro _ _ ⟨b, rfl, rfl⟩
 refine AE ?_
 refine AD ?_
 refine AA ?_
 refine BK ?_; rintro _ _ ⟨b, rfl, rfl⟩
 refine A4 ?_; rintro _ _ ⟨rfl, rfl⟩
 refine AE ?_
 refine AD ?_
 refine AA ?_
 refine BM ?_
 refine BK ?_; rintro _ _ ⟨b, rfl, rfl⟩
 refine A4 ?_; rintro _ _ ⟨rfl, rfl⟩
 refine AE ?_
 refine AD ?_
 refine AA ?_
 refine BM ?_
 refine AC ?_
 refine AE ?_
 refine AD ?_
 refine AA ?_
 refine AB ?_
 revert b; intro b12
 revert b; intro bf
 revert b; intro bo
 refine AR (ρ := sng b12 _) takeZ ?_
 have c12 : rdc (sng b12 (.cells #[fnEnd bf bo] 139 (0, 0))) b12 0 = some (fnEnd bf bo) := by rw [rdc_sng]; rfl
 refine BB (at_spec ρ b4 b6 b7 b12 bf bo _ pq kq qs nn Q s (-1) 0 0 _ [] emp hq hQ hQb (by omega) (OwnS.nil _ _) (by simp)) rfl rfl takesZ rdZ rfl rfl ?_
 rintro _ _ ⟨rfl, u1, σ1, hO1, rfl⟩
 refine AE ?_
 refine AD ?_
 refine AD ?_
 refine AA ?_
 refine AB ?_
 refine AF ?_
 refine BV (levels_spec σ _ l nn qs.length hv2 hok (by omega)) rfl rfl rdZ rfl rfl ?_
 rintro ul σl hOl
 have hL : LvAt σl ul (lvH l nn) := hOl.at
 have hll := lvH_len l nn
 have hlv : ∀ x ∈ lvH l nn, 0 ≤ x.v ∧ x.v ≤ 1099511627776 := fun x hx => by
  have h1 := (comb_mem hx).1
  have h2 := stored_bd (n := nn) (t := x.a) hok
  omega
 unfold freeP
 generalize lvH l nn = f at hOl hL hll hlv
 have hF : f.foldl (frL Q s) (frA Q s (-1, []) 0 0) = frS Q s f f.length := by unfold frS; rw [List.take_length]
 rw [hF]
 have hS0 : frA Q s (-1, []) 0 0 = frS Q s f 0 := rfl
 rw [hS0] at hO1
 rw [hS0]
 obtain ⟨pl, cl, rfl, hrl⟩ := hL.val encV_len
 refine AR (ρ := σl) takeZ ?_
 refine A0 ?_
 refine AB ?_
 refine AE ?_
 refine AQ ?_
 refine BG [10, 12, 13, 43, 44] (X := Nat × (Value × PH)) (0, (u1, σ1)) (fun x => x.1 ≤ f.length ∧ OwnS 61 2 x.2.1 (frS Q s f x.1).2.length ((frS Q s f x.1).2.flatMap encS) x.2.2) (fun x => [(45, int x.1)]) (fun x => [sng bf (.cells #[int (frS Q s f x.1).1] 3 (0, 0)), sng bo (.cells #[x.2.1] 59 (0, 0)), x.2.2]) (fun x => f.length - x.1) pickZ ⟨by dsimp only; omega, hO1⟩ covZ selZ ?_
 clear hO1
 rintro ⟨k, u, σk⟩ ⟨hk, hO⟩
 dsimp only at hk hO ⊢
 have hsl := frS_len Q s f k
 by_cases hlt : k < f.length
 ·have hx := List.getElem?_eq_getElem hlt
  have hvx := hlv _ (List.getElem_mem hlt)
  obtain ⟨b2, o2, rfl, hrd, _, _⟩ := lvRow hrl hx
  have hn := frS_next Q s hx
  generalize f[k] = x at hrd hvx hn
  generalize hst : frS Q s f k = st at hO hsl hn
  obtain ⟨fr, out⟩ := st
  dsimp only at hO hsl ⊢
  by_cases hm : x.a < 1099511627776
  ·have e : frL Q s (fr, out) x = frA Q s (fr, out) x.a x.v := by unfold frL; rw [if_pos hm]
   rw [e] at hn
   refine AD ?_
   refine AA ?_
   refine BD ?_
   refine AE ?_
   refine AD ?_
   refine AP rfl ?_
   refine AL ?_
   refine AD ?_
   refine AQ ?_
   refine AD ?_
   refine AA ?_
   refine BI ?_
   refine AS ?_
   refine AZ ?_; rintro _ _ ⟨b, rfl, rfl⟩
   refine AY ?_; rintro _ _ ⟨rfl, rfl⟩
   refine AE ?_
   refine AD ?_
   refine AA ?_
   refine AH ?_
   refine AF ?_
   refine BD ?_
   refine AE ?_
   refine AP rfl ?_
   refine AA ?_
   refine AB ?_
   refine AH ?_
   refine AF ?_
   refine AH ?_
   refine AF ?_
   refine BB (at_spec ρ b4 b6 b7 b12 bf bo _ pq kq qs nn Q s fr x.a x.v u out σk hq hQ hQb hvx hO (by omega)) rfl rfl takesZ rdZ rfl rfl ?_
   rw [← hn]
   rintro _ _ ⟨rfl, u2, σ2, hO2, rfl⟩
   refine AE ?_
   refine A3 ?_
   refine AA ?_
   refine BC ?_
   refine AB ?_
   refine AE ?_
   exact AX (k + 1, (u2, σ2)) ⟨by dsimp only; omega, hO2⟩ (by dsimp only; omega) covZ selZ
  ·have e : frL Q s (fr, out) x = (fr, out) := by unfold frL; rw [if_neg hm]
   rw [e] at hn
   refine AD ?_
   refine AA ?_
   refine BD ?_
   refine AE ?_
   refine AD ?_
   refine AP rfl ?_
   refine AL ?_
   refine AD ?_
   refine AQ ?_
   refine AD ?_
   refine AA ?_
   refine BI ?_
   refine AS ?_
   refine AZ ?_; rintro _ _ ⟨b, rfl, rfl⟩
   refine AY ?_; rintro _ _ ⟨rfl, rfl⟩
   refine AE ?_
   refine AD ?_
   refine AA ?_
   refine AH ?_
   refine AF ?_
   refine AW ?_
   refine AE ?_
   refine AM rfl ?_
   refine AL ?_
   refine A3 ?_
   refine AA ?_
   refine BC ?_
   refine AB ?_
   refine AE ?_
   refine AX (k + 1, (u, σk)) ⟨by dsimp only; omega, by dsimp only; rw [hn]; exact hO⟩ (by dsimp only; omega) covZ ?_
   dsimp only
   rw [hn]
   exact selZ
 ·have hke : k = f.length := by omega
  subst hke
  generalize frS Q s f f.length = st at hO hsl
  obtain ⟨fr, out⟩ := st
  dsimp only at hO hsl ⊢
  refine AD ?_
  refine AA ?_
  refine AW ?_
  refine AE ?_
  refine AD ?_
  refine AM rfl ?_
  refine A9 rfl ?_
  refine AD ?_
  refine AA ?_
  refine AF ?_
  refine BB (end_spec bf bo fr 1099511627776 u out σk hO (by omega)) rfl rfl takesZ (fun τ hτ => by simp at hτ) rfl rfl ?_
  rintro _ _ ⟨rfl, u2, σ2, hO2, rfl⟩
  refine AE ?_
  refine AD ?_
  refine AA ?_
  refine AF ?_
  refine AC ?_
  refine AC ?_
  refine AE ?_
  exact AI (res2 rfl rfl rfl) rsubZ selZ ⟨σ2, ⟨u2, rfl, hO2⟩, rfl⟩
end Go.Proofs.YthdoegkjifgegaaGreat
/- Arcs by their numbers; what is free at a node. No program in sight. No conditions. -/
namespace Go.Step
theorem rngI_split {a b c : Int} (h1 : a ≤ b) (h2 : b ≤ c) : rngI a c = rngI a b ++ rngI b c := by
  obtain ⟨k, hk⟩ : ∃ k : Nat, c = b + k := ⟨(c - b).toNat, by omega⟩
  subst hk
  clear h2
  induction k with
  | zero => rw [show b + ((0 : Nat) : Int) = b by omega, rngI_nil (Int.le_refl b), List.append_nil]
  | succ k ih => rw [show b + ((k + 1 : Nat) : Int) = b + (k : Int) + 1 by omega, rngI_snoc (by omega), rngI_snoc (by omega), ih, List.append_assoc]
theorem conT_pre (d : Dm) (c : Ct) (i : Int) (G : List (Int × Int)) {t u : Int} (h1 : max c.s d.r ≤ t) (h2 : t ≤ u) : ∃ rest, conT d c i G u = conT d c i G t ++ rest := by
  refine ⟨((rngI t u).filter (fun u => memI G u)).map (conE d c i), ?_⟩
  unfold conT
  rw [rngI_split h1 h2, List.filter_append, List.map_append]
section
variable {qs : List Int} {cs : List Ct} {bs : List Bk} {hs : List Hd} {d : Dm}
theorem arc_con_at (h : VOk qs cs bs hs d) {i : Nat} {c : Ct} (hc : cs[i]? = some c) {t : Int} (h1 : max c.s d.r ≤ t) (h2 : t < c.e) (h3 : t + 1 + c.g ≤ d.e) (hm : memI (freeC cs bs i) t = true) :
    (arcsE qs cs bs hs d)[(waitA qs hs d qs.length).length + (conA cs bs d i).length + (conT d c i (freeC cs bs i) t).length]? = some (conE d c i t) := by
  have hil := (List.getElem?_eq_some_iff.1 hc).1
  have he := conT_end h hc (t := max (max c.s d.r) (min c.e (d.e - c.g))) (by omega) (fun u a b => by omega)
  obtain ⟨r1, e1⟩ := conT_pre d c i (freeC cs bs i) (t := t + 1) (u := max (max c.s d.r) (min c.e (d.e - c.g))) (by omega) (by omega)
  obtain ⟨r2, e2⟩ := conA_pre cs bs d i cs.length hil
  have hsn := conT_snoc (d := d) (c := c) (i := i) (G := freeC cs bs i) h1
  rw [hm, if_pos rfl] at hsn
  unfold arcsE
  rw [e2, ← he, e1, hsn]
  rw [show waitA qs hs d qs.length ++ (conA cs bs d i ++ (conT d c (↑i) (freeC cs bs i) t ++ [conE d c (↑i) t] ++ r1 ++ r2)) = (waitA qs hs d qs.length ++ conA cs bs d i ++ conT d c (↑i) (freeC cs bs i) t) ++ (conE d c (↑i) t :: (r1 ++ r2)) by simp]
  rw [List.getElem?_append_right (by rw [List.length_append, List.length_append]; omega)]
  rw [List.length_append, List.length_append, Nat.sub_self]
  rfl
theorem arc_wait_at {k : Nat} (hk : k < (waitA qs hs d qs.length).length) : ∃ (n : Nat) (t : Int), n < qs.length ∧ d.r ≤ t ∧ t < d.e ∧ (arcsE qs cs bs hs d)[k]? = some ⟨⟨vtx d n t, vtx d n (t + 1), roomT qs hs d n t⟩, -1, t⟩ := by
  have hx := List.getElem?_eq_getElem hk
  obtain ⟨n, hn, t, h1, h2, e⟩ := mem_waitA.1 (List.getElem_mem hk)
  refine ⟨n, t, hn, h1, h2, ?_⟩
  unfold arcsE
  rw [List.getElem?_append_left hk, hx, e]
theorem free_room (h : VOk qs cs bs hs d) (hh : chkH qs cs hs = 0) {n : Nat} (hn : n < qs.length) (n1 : (n : Int) ≠ d.s) (n2 : (n : Int) ≠ d.d) {t : Int} (h1 : d.r ≤ t) (h2 : t < d.e) :
    (freeRes qs cs hs n (max 1 (min (roomT qs hs d n t) 65536))).2 = 0 ∧ (freeRes qs cs hs n (max 1 (min (roomT qs hs d n t) 65536))).1.any (inSp t) = decide (0 < roomT qs hs d n t) := by
  have hdm := h.dm
  unfold okDm at hdm
  have hQ := List.getElem?_eq_getElem hn
  have hR : roomT qs hs d n t = qs[n] - stored hs n t := by
    unfold roomT
    rw [if_neg (by omega), Int.toNat_natCast, List.getD_eq_getElem?_getD, hQ, Option.getD_some]
  have hR0 := h.room n hn t
  have hf := (free_holds (l := hs) (n := (n : Int)) (Q := qs[n]) (s := max 1 (min (roomT qs hs d n t) 65536)) h.hd (by have := h.nh; omega)).2 t (by omega) (by omega)
  unfold freeRes
  rw [if_neg (fun k => k hh), if_neg (by omega)]
  refine ⟨rfl, ?_⟩
  rw [Int.toNat_natCast, List.getD_eq_getElem?_getD, hQ, Option.getD_some]
  have hany : (freeP qs[n] (max 1 (min (roomT qs hs d n t) 65536)) (lvH hs n)).any (inSp t) = true ↔ Cov (freeP qs[n] (max 1 (min (roomT qs hs d n t) 65536)) (lvH hs n)) t := memI_iff
  by_cases hc : 0 < roomT qs hs d n t
  · rw [decide_eq_true hc]
    exact hany.2 (hf.2 (by omega))
  · rw [decide_eq_false hc]
    cases hb : (freeP qs[n] (max 1 (min (roomT qs hs d n t) 65536)) (lvH hs n)).any (inSp t) with
    | false => rfl
    | true =>
      have := hf.1 (hany.1 hb)
      omega
end
end Go.Step
/- Law Arcs. -/
namespace Go.Proofs.YthdoegkjifgegaaGreat
open Go.Eng Go.Step
set_option maxRecDepth 100000
set_option maxHeartbeats 4000000

theorem ownS_len {e : TypeId} {s n : Nat} {v : Value} {xs : List Value} {σ : PH} (h : OwnS e s v n xs σ) : n ≤ 9223372036854775807 := by
 obtain ⟨_, ⟨_, rfl, _⟩ | ⟨b, cap, cur, _, _, h1, h2, _⟩⟩ := h
 ·omega
 ·simp only [maxLen] at h2
  omega
theorem arcIn1_spec (bt : Nat) (t : Int) (x : Int × Int) : Ans Tryz.prog (.func (.func 31) #[] #[.pointer (some ⟨bt, 0, none⟩)]) [.agg (encS x).toArray] [sng bt (.cells #[int t] 3 (0, 0))] (fun r => r = .bool (inSp t x)) := by
 refine spec_in (cap := [.pointer (some ⟨bt, 0, none⟩)]) Tryz.func31 rfl rfl Tryz.ntmps31 rfl envZ (fun N β => ?_)
 unfold inSp
 have c1 : rdc (sng bt (.cells #[int t] 3 (0, 0))) bt 0 = some (int t) := by rw [rdc_sng]; rfl
 by_cases h1 : x.1 ≤ t
 ·by_cases h2 : t < x.2
  ·rw [decide_eq_true h1, decide_eq_true h2]
   refine AD ?_
   refine AA ?_
   refine BU ?_; rintro _ _ ⟨b, rfl, rfl⟩
   refine AC ?_
   refine AE ?_
   refine AD ?_
   refine AA ?_
   refine AH ?_
   refine AF ?_
   refine AF ?_
   refine CL ?_
   refine AB ?_
   refine AF ?_
   refine AH ?_
   refine AF ?_
   refine BD ?_
   refine AK ?_
   refine AC ?_
   refine AE ?_
   exact AI (res1 rfl rfl) rsubZ selZ ⟨rfl, rfl⟩
  ·rw [decide_eq_true h1, decide_eq_false h2]
   refine AD ?_
   refine AA ?_
   refine BU ?_; rintro _ _ ⟨b, rfl, rfl⟩
   refine AC ?_
   refine AE ?_
   refine AD ?_
   refine AA ?_
   refine AH ?_
   refine AF ?_
   refine AF ?_
   refine CL ?_
   refine AB ?_
   refine AF ?_
   refine AH ?_
   refine AF ?_
   refine AW ?_
   refine AK ?_
   refine AC ?_
   refine AE ?_
   exact AI (res1 rfl rfl) rsubZ selZ ⟨rfl, rfl⟩
 ·rw [decide_eq_false h1, Bool.false_and]
  refine AD ?_
  refine AA ?_
  refine BU ?_; rintro _ _ ⟨b, rfl, rfl⟩
  refine AC ?_
  refine AE ?_
  refine AD ?_
  refine AA ?_
  refine AH ?_
  refine AF ?_
  refine AF ?_
  refine CQ ?_
  refine AB ?_
  refine AG rfl rfl rfl ?_
  refine AG rfl rfl rfl ?_
  refine AG rfl rfl rfl ?_
  refine AG rfl rfl rfl ?_
  refine AJ ?_
  refine AC ?_
  refine AE ?_
  exact AI (res1 rfl rfl) rsubZ selZ ⟨rfl, rfl⟩
theorem arcIn2_spec (bt : Nat) (t : Int) (x : Int × Int) : Ans Tryz.prog (.func (.func 33) #[] #[.pointer (some ⟨bt, 0, none⟩)]) [.agg (encS x).toArray] [sng bt (.cells #[int t] 3 (0, 0))] (fun r => r = .bool (inSp t x)) := by
 refine spec_in (cap := [.pointer (some ⟨bt, 0, none⟩)]) Tryz.func33 rfl rfl Tryz.ntmps33 rfl envZ (fun N β => ?_)
 unfold inSp
 have c1 : rdc (sng bt (.cells #[int t] 3 (0, 0))) bt 0 = some (int t) := by rw [rdc_sng]; rfl
 by_cases h1 : x.1 ≤ t
 ·by_cases h2 : t < x.2
  ·rw [decide_eq_true h1, decide_eq_true h2]
   refine AD ?_
   refine AA ?_
   refine BU ?_; rintro _ _ ⟨b, rfl, rfl⟩
   refine AC ?_
   refine AE ?_
   refine AD ?_
   refine AA ?_
   refine AH ?_
   refine AF ?_
   refine AF ?_
   refine CL ?_
   refine AB ?_
   refine AF ?_
   refine AH ?_
   refine AF ?_
   refine BD ?_
   refine AK ?_
   refine AC ?_
   refine AE ?_
   exact AI (res1 rfl rfl) rsubZ selZ ⟨rfl, rfl⟩
  ·rw [decide_eq_true h1, decide_eq_false h2]
   refine AD ?_
   refine AA ?_
   refine BU ?_; rintro _ _ ⟨b, rfl, rfl⟩
   refine AC ?_
   refine AE ?_
   refine AD ?_
   refine AA ?_
   refine AH ?_
   refine AF ?_
   refine AF ?_
   refine CL ?_
   refine AB ?_
   refine AF ?_
   refine AH ?_
   refine AF ?_
   refine AW ?_
   refine AK ?_
   refine AC ?_
   refine AE ?_
   exact AI (res1 rfl rfl) rsubZ selZ ⟨rfl, rfl⟩
 ·rw [decide_eq_false h1, Bool.false_and]
  refine AD ?_
  refine AA ?_
  refine BU ?_; rintro _ _ ⟨b, rfl, rfl⟩
  refine AC ?_
  refine AE ?_
  refine AD ?_
  refine AA ?_
  refine AH ?_
  refine AF ?_
  refine AF ?_
  refine CQ ?_
  refine AB ?_
  refine AG rfl rfl rfl ?_
  refine AG rfl rfl rfl ?_
  refine AG rfl rfl rfl ?_
  refine AG rfl rfl rfl ?_
  refine AJ ?_
  refine AC ?_
  refine AE ?_
  exact AI (res1 rfl rfl) rsubZ selZ ⟨rfl, rfl⟩
set_option maxHeartbeats 64000000 in
theorem arcs_law {ρ τ σ υ : PH} {pq pc pb ph : Option Addr} {kq kc kb kh : Nat} {qs : List Int} {cs : List Ct} {bs : List Bk} {hs : List Hd} (hT : TbAt ρ τ σ υ pq pc pb ph kq kc kb kh qs cs bs hs) (d : Dm) :
  Ans Tryz.prog (fv 6) [.agg #[.slice pq qs.length kq, .slice pc cs.length kc, .slice pb bs.length kb, .slice ph hs.length kh], .agg #[int d.s, int d.d, int d.v, int d.r, int d.e]] [ρ, τ, σ, υ] (fun r => r = .bool true) := by
 have hf := fine53_spec hT d
 have hG := Graph_spec hT d
 refine spec_in (cap := []) Tryz.func6 rfl rfl Tryz.ntmps6 rfl envZ (fun N β => ?_)
 refine AD ?_
 refine AA ?_
 refine BJ (BN rfl) rfl rfl rfl ?_
 rintro _ _ ⟨b1, rfl, rfl⟩
 refine AR (ρ := sng b1 _) takeZ ?_
 have ct : RdN (sng b1 (.cells #[.slice pq qs.length kq, .slice pc cs.length kc, .slice pb bs.length kb, .slice ph hs.length kh] 29 (0, 0))) b1 0 [.slice pq qs.length kq, .slice pc cs.length kc, .slice pb bs.length kb, .slice ph hs.length kh] := rdN_sng (vs := [.slice pq qs.length kq, .slice pc cs.length kc, .slice pb bs.length kb, .slice ph hs.length kh])
 have ct0 : rdc (sng b1 (.cells #[.slice pq qs.length kq, .slice pc cs.length kc, .slice pb bs.length kb, .slice ph hs.length kh] 29 (0, 0))) b1 0 = some (.slice pq qs.length kq) := by rw [rdc_sng]; rfl
 have ct1 : rdc (sng b1 (.cells #[.slice pq qs.length kq, .slice pc cs.length kc, .slice pb bs.length kb, .slice ph hs.length kh] 29 (0, 0))) b1 1 = some (.slice pc cs.length kc) := by rw [rdc_sng]; rfl
 have ct2 : rdc (sng b1 (.cells #[.slice pq qs.length kq, .slice pc cs.length kc, .slice pb bs.length kb, .slice ph hs.length kh] 29 (0, 0))) b1 2 = some (.slice pb bs.length kb) := by rw [rdc_sng]; rfl
 have ct3 : rdc (sng b1 (.cells #[.slice pq qs.length kq, .slice pc cs.length kc, .slice pb bs.length kb, .slice ph hs.length kh] 29 (0, 0))) b1 3 = some (.slice ph hs.length kh) := by rw [rdc_sng]; rfl
 have ctp : RdP (sng b1 (.cells #[.slice pq qs.length kq, .slice pc cs.length kc, .slice pb bs.length kb, .slice ph hs.length kh] 29 (0, 0))) b1 0 [.slice pq qs.length kq, .slice pc cs.length kc] := rdP_sng (xs := [.slice pq qs.length kq, .slice pc cs.length kc, .slice pb bs.length kb, .slice ph hs.length kh]) rfl
 refine BJ (BN rfl) rfl rfl rfl ?_
 rintro _ _ ⟨b2, rfl, rfl⟩
 refine AR (ρ := sng b2 _) takeZ ?_
 have cd : RdN (sng b2 (.cells #[int d.s, int d.d, int d.v, int d.r, int d.e] 31 (0, 0))) b2 0 [int d.s, int d.d, int d.v, int d.r, int d.e] := rdN_sng (vs := [int d.s, int d.d, int d.v, int d.r, int d.e])
 have cd0 : rdc (sng b2 (.cells #[int d.s, int d.d, int d.v, int d.r, int d.e] 31 (0, 0))) b2 0 = some (int d.s) := by rw [rdc_sng]; rfl
 have cd1 : rdc (sng b2 (.cells #[int d.s, int d.d, int d.v, int d.r, int d.e] 31 (0, 0))) b2 1 = some (int d.d) := by rw [rdc_sng]; rfl
 have cd2 : rdc (sng b2 (.cells #[int d.s, int d.d, int d.v, int d.r, int d.e] 31 (0, 0))) b2 2 = some (int d.v) := by rw [rdc_sng]; rfl
 have cd3 : rdc (sng b2 (.cells #[int d.s, int d.d, int d.v, int d.r, int d.e] 31 (0, 0))) b2 3 = some (int d.r) := by rw [rdc_sng]; rfl
 have cd4 : rdc (sng b2 (.cells #[int d.s, int d.d, int d.v, int d.r, int d.e] 31 (0, 0))) b2 4 = some (int d.e) := by rw [rdc_sng]; rfl
 refine AC ?_
 refine AE ?_
 refine AD ?_
 refine AD ?_
 refine AA ?_
 refine AS ?_
 refine AS ?_
 refine A2 hf rfl rfl rdZ rfl rfl ?_
 rintro _ ⟨fb, rfl, hfb⟩
 cases fb with
 | false =>
  refine A6 ?_
  refine AE ?_
  refine AP rfl ?_
  refine AD ?_
  refine AA ?_
  focus ((refine A2 awake53_spec rfl rfl rdZ rfl rfl ?_; rintro _ rfl))
  refine AC ?_
  refine AE ?_
  exact AI (res1 rfl rfl) rsubZ selZ ⟨rfl, rfl⟩
 | true =>
 have hv := hfb rfl
 have h := vok hv
 have hdm := h.dm
 unfold okDm at hdm
 have hnq := h.nq
 have hnc := h.nc
 have hvs := h.vs
 have hEl := ea_len qs cs bs hs d h
 have hAl : (arcsG qs cs bs hs d).length = (arcsE qs cs bs hs d).length := by unfold arcsG; rw [List.length_map]
 obtain ⟨N, hN⟩ : ∃ N : Nat, vsN qs d = N := ⟨(vsN qs d).toNat, by omega⟩
 rw [hN] at hG
 have hch := h.chk
 rw [hN] at hch
 obtain ⟨_, hb0, hh0⟩ := chkT_ok (of_decide_eq_true hv).1
 refine A6 ?_
 refine AE ?_
 refine AM rfl ?_
 refine AL ?_
 refine AD ?_
 refine AA ?_
 refine AS ?_
 refine AS ?_
 refine BV hG rfl rfl rdZ rfl rfl ?_
 rintro _ σg hg
 rw [if_pos hv] at hg
 obtain ⟨ug, rfl, hOg⟩ := hg
 have hAt : ArcsAt σg ug (arcsG qs cs bs hs d) := hOg.at
 obtain ⟨pg, kg, rfl⟩ := hOg.form
 refine AR (ρ := σg) takeZ ?_
 refine AB ?_
 refine AN ?_
 refine AN ?_
 refine AZ ?_; rintro _ _ ⟨b, rfl, rfl⟩
 refine AY ?_; rintro _ _ ⟨rfl, rfl⟩
 refine AC ?_
 refine AE ?_
 refine AD ?_
 refine AD ?_
 refine AA ?_
 refine AB ?_
 refine BA ?_
 refine AB ?_
 refine AH ?_
 refine AF ?_
 refine AH ?_
 refine AF ?_
 revert b; intro bg
 refine AR (ρ := sng bg _) takeZ ?_
 have gg0 : rdc (sng bg (.cells #[int (N : Int), .slice pg (arcsG qs cs bs hs d).length kg, int (vtx d d.s d.r), int (vtx d d.d d.e)] 36 (0, 0))) bg 0 = some (int (N : Int)) := by rw [rdc_sng]; rfl
 have gg1 : rdc (sng bg (.cells #[int (N : Int), .slice pg (arcsG qs cs bs hs d).length kg, int (vtx d d.s d.r), int (vtx d d.d d.e)] 36 (0, 0))) bg 1 = some (.slice pg (arcsG qs cs bs hs d).length kg) := by rw [rdc_sng]; rfl
 have gg2 : rdc (sng bg (.cells #[int (N : Int), .slice pg (arcsG qs cs bs hs d).length kg, int (vtx d d.s d.r), int (vtx d d.d d.e)] 36 (0, 0))) bg 2 = some (int (vtx d d.s d.r)) := by rw [rdc_sng]; rfl
 have gg3 : rdc (sng bg (.cells #[int (N : Int), .slice pg (arcsG qs cs bs hs d).length kg, int (vtx d d.s d.r), int (vtx d d.d d.e)] 36 (0, 0))) bg 3 = some (int (vtx d d.d d.e)) := by rw [rdc_sng]; rfl
 have hck := check_spec σg (.slice pg (arcsG qs cs bs hs d).length kg) N (arcsG qs cs bs hs d) hAt (by omega)
 rw [hch] at hck
 have hWl := waitA_len qs hs d qs.length
 have hWb := h.waitA_le (Nat.le_refl _)
 have hWN : (qs.length : Int) * (d.e - d.r) = ((waitA qs hs d qs.length).length : Int) := by
  rw [hWl, Int.natCast_mul, Int.toNat_of_nonneg (by omega)]
 have hEW : (arcsE qs cs bs hs d).length = (waitA qs hs d qs.length).length + (conA cs bs d cs.length).length := by unfold arcsE; rw [List.length_append]
 have hra := rowN encA_len hAt
 have hcapg : (arcsG qs cs bs hs d).length ≤ kg := by
  obtain ⟨_, _, _, e, hle⟩ := hOg.capOK
  simp only [Value.slice.injEq] at e
  obtain ⟨rfl, rfl, rfl⟩ := e
  exact hle
 have hcut : ∀ s, cutP pg kg 0 s = pg := fun s => by
  obtain ⟨_, ⟨e, _⟩ | ⟨b, cap, cur, e, _⟩⟩ := hOg
  ·simp only [Value.slice.injEq] at e
   rw [e.1]
   unfold cutP
   split <;> rfl
  ·simp only [Value.slice.injEq] at e
   rw [e.1]
   exact cutP_zero _ _ _
 have hAget : ∀ (k : Nat) (x : EA), (arcsE qs cs bs hs d)[k]? = some x → (arcsG qs cs bs hs d)[k]? = some x.a := fun k x hx => by unfold arcsG; rw [List.getElem?_map, hx]; rfl
 have hWat := fun k (hk : k < (waitA qs hs d qs.length).length) => arc_wait_at (cs := cs) (bs := bs) hk
 generalize hWW : (waitA qs hs d qs.length).length = W at hWN hWb hEW hWat
 refine A2 hck rfl rfl rdZ rfl rfl ?_
 rintro _ rfl
 refine BA ?_
 refine AJ ?_
 refine AE ?_
 refine AM rfl ?_
 refine AL ?_
 refine AD ?_
 refine AA ?_
 refine AH ?_
 refine AH ?_
 refine AF ?_
 refine A0 ?_
 refine AH ?_
 refine AF ?_
 refine AH ?_
 refine AF ?_
 refine CY ?_
 refine ET ?_
 refine AC ?_
 refine AE ?_
 refine AD ?_
 refine AD ?_
 refine AA ?_
 refine AH ?_
 refine AF ?_
 refine A0 ?_
 refine AB ?_
 refine AW ?_
 refine AE ?_
 refine AM rfl ?_
 refine AL ?_
 refine AD ?_
 refine AD ?_
 refine AA ?_
 refine AH ?_
 refine AF ?_
 refine AB ?_
 focus ((rw [hWN]))
 refine EV ?_
 refine A0 ?_
 refine AB ?_
 refine AE ?_
 refine AQ ?_
 rw [hcut]
 refine BG [2, 3, 5, 7, 68, 69] (0 : Nat) (fun k => k ≤ W) (fun k => [(70, int k)]) (fun _ => []) (fun k => W - k) pickZ (by omega) covZ selZ ?_
 rintro k hk
 by_cases hlt : k < W
 rotate_left
 ·have hkW : k = W := by omega
  subst hkW
  refine AD ?_
  refine AA ?_
  refine AW ?_
  refine AE ?_
  refine AD ?_
  refine AM rfl ?_
  refine A9 rfl ?_
  refine AD ?_
  refine AA ?_
  refine AB ?_
  refine AC ?_
  refine AE ?_
  refine AD ?_
  refine AD ?_
  refine AA ?_
  refine AH ?_
  refine AH ?_
  refine AF ?_
  refine A0 ?_
  refine AB ?_
  refine AE ?_
  refine AQ ?_
  refine BG [2, 3, 5, 148, 149] (0 : Nat) (fun i => i ≤ cs.length) (fun i => [(150, int i), (19, int ((k + (conA cs bs d i).length : Nat) : Int))]) (fun _ => []) (fun i => cs.length - i) pickZ (by omega) covZ selZ ?_
  rintro i hi
  by_cases hil : i < cs.length
  rotate_left
  ·have hie : i = cs.length := by omega
   subst hie
   refine AD ?_
   refine AA ?_
   refine AW ?_
   refine AE ?_
   refine AD ?_
   refine AM rfl ?_
   refine A9 rfl ?_
   refine AD ?_
   refine AA ?_
   refine AB ?_
   refine AH ?_
   refine AF ?_
   refine A0 ?_
   refine CB ?_
   refine AB ?_
   refine A2 awake53_spec rfl rfl rdZ rfl rfl ?_
   rintro _ rfl
   refine AK ?_
   refine AC ?_
   refine AE ?_
   exact AI (res1 rfl rfl) rsubZ selZ ⟨rfl, rfl⟩
  have hx := List.getElem?_eq_getElem hil
  have hbf := bkFree_spec hT i _ hx hb0
  have hend := fun t => conT_end h (t := t) hx
  have hat := fun t => arc_con_at h (t := t) hx
  obtain ⟨hfc, hfl⟩ := h.free_chk hx
  have hmem := fun t => (h.free hx).2.2 t
  have hk := h.ct _ (List.mem_of_getElem? hx)
  have hCl := h.conA_le (m := i) (by omega)
  have hnx : (conA cs bs d (i + 1)).length = (conA cs bs d i).length + (conN cs bs d i).length := by
   rw [show conA cs bs d (i + 1) = conA cs bs d i ++ conN cs bs d i from rfl, List.length_append]
  rw [hWW] at hat
  obtain ⟨b4, o4, epc, hrd⟩ := ctRow hT.rc hx
  generalize cs[i] = c at hx hbf hend hat hmem hk hrd
  generalize conN cs bs d i = CN at hend hnx
  generalize (conA cs bs d i).length = z0 at hat hCl hnx
  generalize freeC cs bs i = G at hfc hfl hend hat hmem hbf
  subst epc
  refine AD ?_
  refine AA ?_
  refine BD ?_
  refine AE ?_
  refine AD ?_
  refine AP rfl ?_
  refine AL ?_
  refine AD ?_
  refine AQ ?_
  refine AD ?_
  refine AA ?_
  refine AB ?_
  refine BI ?_
  refine AS ?_
  refine AZ ?_; rintro _ _ ⟨b, rfl, rfl⟩
  refine AC ?_
  refine AY ?_; rintro _ _ ⟨rfl, rfl⟩
  refine AE ?_
  refine AD ?_
  refine AA ?_
  refine AH ?_
  refine AS ?_
  refine AH ?_
  refine AF ?_
  refine AB ?_
  revert b; intro b21
  refine BV hbf rfl rfl rdZ rfl rfl ?_
  rintro _ χf ⟨uf, rfl, hOf⟩
  have hSf : SpAt χf uf G := hOf.at
  refine AB ?_
  refine AN ?_
  refine AN ?_
  refine AC ?_
  refine AC ?_
  refine AE ?_
  refine AD ?_
  refine AD ?_
  refine AA ?_
  refine AB ?_
  refine BA ?_
  refine AE ?_
  refine AM rfl ?_
  refine AL ?_
  refine AD ?_
  refine AA ?_
  refine AH ?_
  refine AF ?_
  refine AH ?_
  refine AF ?_
  refine DR ?_
  refine BK ?_; rintro _ _ ⟨b, rfl, rfl⟩
  refine A4 ?_; rintro _ _ ⟨rfl, rfl⟩
  refine AE ?_
  refine AQ ?_
  revert b; intro b24
  refine BG [2, 3, 5, 21, 22, 148, 149, 150] (X := Int × Nat) (max c.s d.r, b24) (fun z => max c.s d.r ≤ z.1 ∧ (∀ v, max c.s d.r ≤ v → v < z.1 → v < c.e ∧ v + 1 + c.g ≤ d.e)) (fun z => [(24, .pointer (some ⟨z.2, 0, none⟩)), (19, int ((k + z0 + (conT d c i G z.1).length : Nat) : Int))]) (fun z => [sng z.2 (.cells #[int z.1] 3 (0, 0)), sng b21 (.cells #[int c.f, int c.t, int c.s, int c.e, int c.r, int c.g, int c.l] 70 (0, 0)), χf]) (fun z => (c.e - z.1).toNat) pickZ ⟨by dsimp only; omega, fun v h1 h2 => by dsimp only at h2; omega⟩ (by dsimp only; rw [conT_nil]; exact covZ) selZ ?_
  rintro ⟨t, bt⟩ ⟨ht1, hin⟩
  dsimp only at ht1 hin ⊢
  have hsn := conT_snoc (d := d) (c := c) (i := i) (G := G) ht1
  have hin2 : t < c.e → t + 1 + c.g ≤ d.e → ∀ v, max c.s d.r ≤ v → v < t + 1 → v < c.e ∧ v + 1 + c.g ≤ d.e := fun c1 c2 v h1 h2 => by
   by_cases hq : v < t
   ·exact hin v h1 hq
   ·have : v = t := by omega
    subst this
    exact ⟨c1, c2⟩
  have htl : (t - max c.s d.r).toNat ≤ 100 := by
   by_cases hq : max c.s d.r < t
   ·have := hin (t - 1) (by omega) (by omega)
    omega
   ·omega
  have hcl := conT_len d c i G t
  by_cases c0 : t < min c.e (d.e - c.g)
  rotate_left
  ·have he := hend t (fun hh => c0 (by omega)) hin
   rw [he]
   refine AD ?_
   refine AD ?_
   refine AA ?_
   refine AF ?_
   refine AH ?_
   refine AF ?_
   refine AH ?_
   refine AF ?_
   refine AH ?_
   refine AF ?_
   refine CY ?_
   refine EB ?_
   refine AW ?_
   refine AE ?_
   refine AM rfl ?_
   refine A9 rfl ?_
   refine A3 ?_
   refine AA ?_
   refine BC ?_
   refine AB ?_
   refine AE ?_
   refine AX (i + 1) (by omega) (by omega) ?_ selZ
   rw [hnx, ← Nat.add_assoc]
   exact covZ
  have hCt := contS_spec χf [sng bt (.cells #[int t] 3 (0, 0))] uf (.func (.func 33) #[] #[.pointer (some ⟨bt, 0, none⟩)]) G (inSp t) hSf (by omega) (fun i x _ => arcIn2_spec bt t x)
  rw [show G.any (inSp t) = memI G t from rfl] at hCt
  refine AD ?_
  refine AD ?_
  refine AA ?_
  refine AF ?_
  refine AH ?_
  refine AF ?_
  refine AH ?_
  refine AF ?_
  refine AH ?_
  refine AF ?_
  refine CY ?_
  refine EB ?_
  refine BD ?_
  refine AE ?_
  refine AP rfl ?_
  refine AL ?_
  refine AD ?_
  refine AQ ?_
  refine AD ?_
  refine AD ?_
  refine AA ?_
  refine AB ?_
  refine BM ?_
  refine A2 hCt rfl rfl rdZ rfl rfl ?_
  rintro _ rfl
  cases hm : memI G t with
  | false =>
   rw [hm, if_neg (by simp), List.append_nil] at hsn
   refine A6 ?_
   refine AE ?_
   refine AP rfl ?_
   refine A9 rfl ?_
   refine AD ?_
   refine AD ?_
   refine AA ?_
   refine AF ?_
   refine AE ?_
   refine AA ?_
   refine BK ?_; rintro _ _ ⟨b, rfl, rfl⟩
   refine A4 ?_; rintro _ _ ⟨rfl, rfl⟩
   refine AE ?_
   refine AA ?_
   refine AF ?_
   refine CJ ?_
   refine A4 ?_; rintro _ _ ⟨rfl, rfl⟩
   refine AE ?_
   revert b; intro b25
   refine AX (t + 1, b25) ⟨by dsimp only; omega, hin2 (by omega) (by omega)⟩ (by dsimp only; omega) ?_ selZ
   dsimp only
   rw [hsn]
   exact covZ
  | true =>
   rw [hm, if_pos rfl] at hsn
   have hg := hAget _ _ (hat t ht1 (by omega) (by omega) hm)
   have hgl := (List.getElem?_eq_some_iff.1 hg).1
   obtain ⟨b7, o7, epg, hrd2⟩ := hra _ _ hg
   dsimp only [encA, conE] at hrd2
   have hV1 := Vertex_spec hT d c.f t
   have hV2 := Vertex_spec hT d c.t (t + 1 + c.g)
   rw [show vertexR qs cs bs hs d c.f t = (vtx d c.f t, 0) by unfold vertexR; rw [if_pos hv, if_pos (by omega)]] at hV1
   rw [show vertexR qs cs bs hs d c.t (t + 1 + c.g) = (vtx d c.t (t + 1 + c.g), 0) by unfold vertexR; rw [if_pos hv, if_pos (by omega)]] at hV2
   dsimp only at hV1 hV2
   generalize conT d c i G t = T0 at hsn hg hgl hrd2
   generalize hkk : k + z0 + T0.length = kk at hg hgl hrd2
   have hsl : k + z0 + (T0 ++ [conE d c i t]).length = kk + 1 := by rw [List.length_append, ← hkk]; rfl
   subst epg
   refine A6 ?_
   refine AE ?_
   refine AM rfl ?_
   refine AL ?_
   refine AD ?_
   refine AA ?_
   refine AS ?_
   refine AS ?_
   refine AH ?_
   refine AF ?_
   refine AF ?_
   refine A2 hV1 rfl rfl rdZ rfl rfl ?_
   rintro _ rfl
   refine AB ?_
   refine AN ?_
   refine AN ?_
   refine AC ?_
   refine AC ?_
   refine AE ?_
   refine AD ?_
   refine AA ?_
   refine AS ?_
   refine AS ?_
   refine AH ?_
   refine AF ?_
   refine AF ?_
   refine CJ ?_
   refine AH ?_
   refine AF ?_
   refine CJ ?_
   refine A2 hV2 rfl rfl rdZ rfl rfl ?_
   rintro _ rfl
   refine AB ?_
   refine AN ?_
   refine AN ?_
   refine AC ?_
   refine AC ?_
   refine AE ?_
   refine AD ?_
   refine AD ?_
   refine A5 (.q 0 (.q 1 (.q 2 (.q 3 (.q 4 (.q 5 (.q 6 (.q 7 (.q 8 (.q 9 (.q 10 (.q 11 (.q 12 (.q 13 (.q 14 (.q 15 (.q 16 (.q 17 (.q 18 (.q 19 (.q 20 (.q 21 (.q 22 (.q 23 (.q 24 (.q 25 .nil)))))))))))))))))))))))))) [] rfl (by kernel_rfl) Sel.nil ?_
   refine AT ?_
   refine F4 ?_
   refine AT ?_
   refine AT ?_
   refine F4 ?_
   refine BY ?_
   refine AT ?_
   refine AT ?_
   refine AU ?_
   refine AO ?_
   refine DP ?_
   refine F6 ?_
   refine BY ?_
   refine AT ?_
   refine AU ?_
   refine AO ?_
   refine AT ?_
   refine B6 ?_
   refine BW ?_
   refine AT ?_
   refine AT ?_
   refine AU ?_
   refine AO ?_
   refine CD ?_
   focus ((refine' CR rfl _ rfl rfl rfl rfl _; rotate_left; (apply q_neS [vtx d c.f t, vtx d c.t (t + 1 + c.g), c.r] [vtx d c.f t, vtx d c.t (t + 1 + c.g), c.r] (n := 3); exact rfl; exact rfl; kernel_rfl; kernel_rfl; kernel_rfl; exact rfl; exact rfl)))
   refine BY ?_
   refine A7 ?_
   rw [show (!decide (([vtx d c.f t, vtx d c.t (t + 1 + c.g), c.r] : List Int) = [vtx d c.f t, vtx d c.t (t + 1 + c.g), c.r])) = false by simp]
   skip
   refine AM rfl ?_
   refine AL ?_
   refine AA ?_
   refine AB ?_
   refine BC ?_
   refine AC ?_
   refine AE ?_
   refine A3 ?_
   refine AD ?_
   refine AD ?_
   refine AA ?_
   refine AF ?_
   refine AE ?_
   refine AA ?_
   refine BK ?_; rintro _ _ ⟨b, rfl, rfl⟩
   refine A4 ?_; rintro _ _ ⟨rfl, rfl⟩
   refine AE ?_
   refine AA ?_
   refine AF ?_
   refine CJ ?_
   refine A4 ?_; rintro _ _ ⟨rfl, rfl⟩
   refine AE ?_
   revert b; intro b25
   refine AX (t + 1, b25) ⟨by dsimp only; omega, hin2 (by omega) (by omega)⟩ (by dsimp only; omega) ?_ selZ
   dsimp only
   rw [hsn, hsl]
   exact covZ
 obtain ⟨n, t, hn, ht1, ht2, hx⟩ := hWat k hlt
 have hg := hAget k _ hx
 obtain ⟨b7, o7, epg, hrd⟩ := hra k _ hg
 dsimp only [encA] at hrd
 have hP1 := Place_spec hT d (vtx d n t)
 have hP2 := Place_spec hT d (vtx d n (t + 1))
 have v1 := vtx_lt (d := d) (n := n) (t := t) (N := qs.length) (by omega) (by omega) ht1 (by omega)
 have v2 := vtx_lt (d := d) (n := n) (t := t + 1) (N := qs.length) (by omega) (by omega) (by omega) (by omega)
 rw [show placeR qs cs bs hs d (vtx d n t) = ((n : Int), t, 0) by unfold placeR vsN; rw [if_pos hv, if_pos v1, vtx_div ht1 (by omega), vtx_mod ht1 (by omega), show d.r + (t - d.r) = t by omega]] at hP1
 rw [show placeR qs cs bs hs d (vtx d n (t + 1)) = ((n : Int), t + 1, 0) by unfold placeR vsN; rw [if_pos hv, if_pos v2, vtx_div (by omega) (by omega), vtx_mod (by omega) (by omega), show d.r + (t + 1 - d.r) = t + 1 by omega]] at hP2
 dsimp only at hP1 hP2
 have hR0 := h.room n hn t
 have hfr := fun n1 n2 => free_room h hh0 hn n1 n2 ht1 ht2
 generalize roomT qs hs d n t = R0 at hrd hR0 hfr
 subst epg
 refine AD ?_
 refine AA ?_
 refine BD ?_
 refine AE ?_
 refine AD ?_
 refine AP rfl ?_
 refine AL ?_
 refine AD ?_
 refine AQ ?_
 refine AD ?_
 refine AA ?_
 refine BI ?_
 refine AS ?_
 refine AZ ?_; rintro _ _ ⟨b, rfl, rfl⟩
 refine AY ?_; rintro _ _ ⟨rfl, rfl⟩
 refine AE ?_
 refine AD ?_
 refine AA ?_
 refine AS ?_
 refine AS ?_
 refine AH ?_
 refine AF ?_
 revert b; intro b9
 refine A2 hP1 rfl rfl rdZ rfl rfl ?_
 rintro _ rfl
 refine AB ?_
 refine AN ?_
 refine AN ?_
 refine AN ?_
 refine BK ?_; rintro _ _ ⟨b, rfl, rfl⟩
 refine AC ?_
 refine A4 ?_; rintro _ _ ⟨rfl, rfl⟩
 refine AC ?_
 refine AE ?_
 refine AD ?_
 refine AA ?_
 refine AS ?_
 refine AS ?_
 refine AH ?_
 refine AF ?_
 revert b; intro b11
 refine A2 hP2 rfl rfl rdZ rfl rfl ?_
 rintro _ rfl
 by_cases s1 : (n : Int) = d.s
 ·refine AB ?_
  refine AN ?_
  refine AN ?_
  refine AN ?_
  refine AC ?_
  refine AC ?_
  refine AC ?_
  refine AE ?_
  refine AD ?_
  refine AD ?_
  refine AA ?_
  refine AB ?_
  refine BA ?_
  refine AB ?_
  refine AB ?_
  refine BA ?_
  refine AJ ?_
  refine AB ?_
  refine AB ?_
  refine AB ?_
  refine BA ?_
  refine AJ ?_
  refine AB ?_
  refine AB ?_
  refine AF ?_
  refine CJ ?_
  refine BA ?_
  refine AJ ?_
  refine AE ?_
  refine AM rfl ?_
  refine AL ?_
  refine AD ?_
  refine AD ?_
  refine AA ?_
  refine AB ?_
  refine AH ?_
  refine AF ?_
  refine CB ?_
  refine AB ?_
  refine AG rfl rfl rfl ?_
  refine AG rfl rfl rfl ?_
  refine AG rfl rfl rfl ?_
  refine AG rfl rfl rfl ?_
  refine AK ?_
  refine AE ?_
  refine AP rfl ?_
  refine A9 rfl ?_
  refine AA ?_
  refine BC ?_
  refine AB ?_
  refine AE ?_
  exact AX (k + 1) (by omega) (by omega) covZ selZ
 by_cases s2 : (n : Int) = d.d
 ·refine AB ?_
  refine AN ?_
  refine AN ?_
  refine AN ?_
  refine AC ?_
  refine AC ?_
  refine AC ?_
  refine AE ?_
  refine AD ?_
  refine AD ?_
  refine AA ?_
  refine AB ?_
  refine BA ?_
  refine AB ?_
  refine AB ?_
  refine BA ?_
  refine AJ ?_
  refine AB ?_
  refine AB ?_
  refine AB ?_
  refine BA ?_
  refine AJ ?_
  refine AB ?_
  refine AB ?_
  refine AF ?_
  refine CJ ?_
  refine BA ?_
  refine AJ ?_
  refine AE ?_
  refine AM rfl ?_
  refine AL ?_
  refine AD ?_
  refine AD ?_
  refine AA ?_
  refine AB ?_
  refine AH ?_
  refine AF ?_
  refine BZ ?_
  refine AB ?_
  refine AB ?_
  refine AH ?_
  refine AF ?_
  refine CB ?_
  refine AJ ?_
  refine AE ?_
  refine AP rfl ?_
  refine A9 rfl ?_
  refine AA ?_
  refine BC ?_
  refine AB ?_
  refine AE ?_
  exact AX (k + 1) (by omega) (by omega) covZ selZ
 obtain ⟨f1, f2⟩ := hfr s1 s2
 have hF := free_spec ρ τ υ pq pc kq kc qs cs (.slice ph hs.length kh) hs n (max 1 (min R0 65536)) hT.hq hT.hc hT.hcap hT.lq hT.lc hT.hh hT.lh
 rw [f1] at hF
 generalize (freeRes qs cs hs n (max 1 (min R0 65536))).1 = G at hF f2
 refine AB ?_
 refine AN ?_
 refine AN ?_
 refine AN ?_
 refine AC ?_
 refine AC ?_
 refine AC ?_
 refine AE ?_
 refine AD ?_
 refine AD ?_
 refine AA ?_
 refine AB ?_
 refine BA ?_
 refine AB ?_
 refine AB ?_
 refine BA ?_
 refine AJ ?_
 refine AB ?_
 refine AB ?_
 refine AB ?_
 refine BA ?_
 refine AJ ?_
 refine AB ?_
 refine AB ?_
 refine AF ?_
 refine CJ ?_
 refine BA ?_
 refine AJ ?_
 refine AE ?_
 refine AM rfl ?_
 refine AL ?_
 refine AD ?_
 refine AD ?_
 refine AA ?_
 refine AB ?_
 refine AH ?_
 refine AF ?_
 refine BZ ?_
 refine AB ?_
 refine AB ?_
 refine AH ?_
 refine AF ?_
 refine BZ ?_
 refine AJ ?_
 refine AE ?_
 refine AM rfl ?_
 refine AL ?_
 refine AD ?_
 refine AA ?_
 refine AH ?_
 refine AS ?_
 refine AH ?_
 refine AF ?_
 refine AB ?_
 refine AH ?_
 refine AF ?_
 refine EB ?_
 refine DR ?_
 refine BV hF rfl rfl rdZ rfl rfl ?_
 rintro _ σr ⟨ur, rfl, hOr⟩
 have hSr : SpAt σr ur G := hOr.at
 have hFl : G.length ≤ 9223372036854775807 := ownS_len hOr
 have hCt := contS_spec σr [sng b11 (.cells #[int t] 3 (0, 0))] ur (.func (.func 31) #[] #[.pointer (some ⟨b11, 0, none⟩)]) G (inSp t) hSr hFl (fun i x _ => arcIn1_spec b11 t x)
 rw [f2] at hCt
 refine AB ?_
 refine AN ?_
 refine AN ?_
 refine AC ?_
 refine AC ?_
 refine AE ?_
 refine AD ?_
 refine AA ?_
 refine AB ?_
 refine BM ?_
 refine A2 hCt rfl rfl rdZ rfl rfl ?_
 rintro _ rfl
 by_cases hR : 0 < R0
 ·rw [decide_eq_true hR]
  refine AC ?_
  refine AE ?_
  refine AD ?_
  refine AA ?_
  refine AB ?_
  refine BA ?_
  refine AB ?_
  refine AB ?_
  refine AH ?_
  refine AF ?_
  refine CS ?_
  focus ((refine' B8 _ rfl rfl rfl _; rotate_left; (apply ES; exact rfl; exact rfl; exact rfl)))
  refine AJ ?_
  refine AE ?_
  refine AM rfl ?_
  refine AL ?_
  refine A3 ?_
  refine AA ?_
  refine BC ?_
  refine AB ?_
  refine AE ?_
  exact AX (k + 1) (by omega) (by omega) covZ selZ
 ·rw [decide_eq_false hR]
  refine AC ?_
  refine AE ?_
  refine AD ?_
  refine AA ?_
  refine AB ?_
  refine BA ?_
  refine AB ?_
  refine AB ?_
  refine AH ?_
  refine AF ?_
  refine BT ?_
  focus ((refine' B8 _ rfl rfl rfl _; rotate_left; (apply ES; exact rfl; exact rfl; exact rfl)))
  refine AJ ?_
  refine AE ?_
  refine AM rfl ?_
  refine AL ?_
  refine A3 ?_
  refine AA ?_
  refine BC ?_
  refine AB ?_
  refine AE ?_
  exact AX (k + 1) (by omega) (by omega) covZ selZ
end Go.Proofs.YthdoegkjifgegaaGreat
/- The rows: each law, for every input. -/
namespace Go.Proofs.YthdoegkjifgegaaGreat
open Go.Eng Go.Step
set_option maxRecDepth 100000
set_option maxHeartbeats 4000000
open Go.ChangeShapes Go.WideShapes Go.ChangeAt Go.RowKit

set_option maxRecDepth 100000 in
theorem expandedArcs_lifted (os : Os) (started : os.Started) (H : Type) (enc : TypeId × Value → H) :
  ReturnsInHanded {} Tryz.checked os 6 .any (Rows.expandedArcsSpec.pre6 enc Tryz.prog Tryz.f6 Rows.expandedArcsRow.domain false) (Rows.expandedArcsSpec.post enc Tryz.prog Tryz.f6 false true false false) := by
 refine returnsInHanded_of_change (C := Tryz.checked) Tryz.own started (by kernel_rfl) Tryz.func6
  (ChangeSpec.witness6 (enc := enc) (C := Tryz.checked) false ⟨#[], #[.agg #[.slice none 0 0, .slice none 0 0, .slice none 0 0, .slice none 0 0], .agg #[.int .i64 0, .int .i64 0, .int .i64 0, .int .i64 0, .int .i64 0]], []⟩ 8 (by kernel_rfl) (by kernel_rfl) (by kernel_rfl) (by kernel_rfl)) ?_
 intro W base args ds gs before hval0 hW hcnd _
 have hval : ∀ (j : Nat) t v, Tryz.f6.params[j]? = some t → args[j]? = some v → Value.okWide Tryz.prog W .any base t v := hval0
 have hW' := hW
 obtain ⟨p, q, hA0, hV, rfl, hfz, hnd⟩ := hW
 have hA : DataW.TrodAll enc Tryz.prog W 0 (fun _ => true) true Tryz.f6.params.toList args.toList ds p := hA0
 rw [Tryz.params6] at hA hval
 obtain ⟨v0, vs0, d0, ds0, p0, q0, hargs, rfl, rfl, h0, r0⟩ := trodAll_cons hA
 obtain ⟨v1, vs1, d1, ds1, p1, q1, rfl, rfl, rfl, h1, r1⟩ := trodAll_cons r0
 obtain ⟨rfl, rfl, rfl⟩ := trodAll_nil r1
 obtain rfl : args = #[v0, v1] := by cases args; simp_all
 obtain ⟨rfl, rfl⟩ := trodVars_none hV
 have lt0 : ∀ x ∈ p0, x.block < W.heap.size := by obtain ⟨m, hm⟩ := h0; exact DataW.trod_lt m _ _ _ hm
 have lt1 : ∀ x ∈ p1, x.block < W.heap.size := by obtain ⟨m, hm⟩ := h1; exact DataW.trod_lt m _ _ _ hm
 have hlaw : Ans Tryz.prog (fv 6) [v0, v1] [heapPH W] (fun v => v = .bool true) := by
  obtain ⟨pq, pc, pb, ph, kq, kc, kb, kh, qs, cs, bs, hs, rfl, hT⟩ := tables_of (hval 0 _ v0 rfl rfl) (RdT.of h0)
  obtain ⟨d, rfl, id0, id1, id2, id3, id4⟩ := demand_of (hval 1 _ v1 rfl rfl) (RdT.of h1)
  exact (arcs_law hT d).rsub (fun _ h => by simpa using h)
 refine (law_calls Tryz.func6 rfl rfl hlaw).mono fun e W' ⟨he, bel⟩ => ?_
 subst he
 exact ⟨_, rfl, _, _, _, [], _, [], hW', trodAll_mk1 (shut_bool Tryz.underlying4 _), (trodAll_cons_mk (Below.trod Tryz.laidOut (by kernel_rfl) (of_decide_eq_true (by kernel_rfl)) h0 bel lt0) (trodAll_cons_mk (Below.trod Tryz.laidOut (by kernel_rfl) (of_decide_eq_true (by kernel_rfl)) h1 bel lt1) trodAll_mk0)), rfl, bel.frame _, fun h => by cases h⟩
theorem expandedArcs_holds : Rows.ExpandedArcsSaid :=
 OpenClaim.holds_of_wide 6 Tryz.f6 rfl rfl rfl rfl rfl rfl rfl ⟨rfl, rfl, rfl, rfl, rfl⟩ rfl rfl rfl rfl rfl (by kernel_rfl) Tryz.func6 (by kernel_rfl)
  (of_decide_eq_true (by kernel_rfl)) (by unfold Func.isWrapper; first | (rw [if_pos (by decide +kernel)]; kernel_rfl) | (rw [if_neg (by decide +kernel)]; exact ⟨rfl, rfl⟩))
  (fun os started H enc _ => expandedArcs_lifted os started H enc)
end Go.Proofs.YthdoegkjifgegaaGreat
