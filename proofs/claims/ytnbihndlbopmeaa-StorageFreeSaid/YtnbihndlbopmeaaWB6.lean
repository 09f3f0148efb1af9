/- Texts of this proof, one after the other; no conditions. -/
import Derived.Test.YtnbihndlbopmeaaWB5
import Derived.Test.YtnbihndlbopmeaaWB3
set_option linter.all false
/- What is wrong with holds, of the program. -/
namespace Go.Proofs.Ytnbihndlbopmeaa
open Go.Eng Go.Step
set_option maxRecDepth 100000
set_option maxHeartbeats 4000000

theorem chkPl_quo {qs : List Int} {cs : List Ct} (h : chkPl qs cs = 0) : (1 ≤ qs.length ∧ qs.length ≤ 16) ∧ ∀ (j : Nat) (q : Int), qs[j]? = some q → 0 ≤ q ∧ q ≤ 1073741824 := by
  unfold chkPl at h
  split at h
  · omega
  · rename_i hl
    split at h
    · rename_i h2; exact absurd h h2
    · rename_i h2
      have h3 : firstE (quoE qs) qs.length = 0 := Decidable.not_not.1 h2
      refine ⟨by omega, fun j q hj => ?_⟩
      have := firstE_zero h3 j (List.getElem?_eq_some_iff.1 hj).1
      rw [quoE_at hj] at this
      split at this <;> omega
theorem fit_all {qs : List Int} {l : List Hd} (hok : ∀ h ∈ l, okHd qs.length h) (hq : ∀ (j : Nat) (q : Int), qs[j]? = some q → 0 ≤ q ∧ q ≤ 1073741824) (H : ∀ (j : Nat) (q : Int), qs[j]? = some q → mostL (lvH l j) ≤ q) : fitB qs l = true :=
  List.all_eq_true.2 (fun h hm => decide_eq_true (by
    have hn := (hok h hm).1
    obtain ⟨nn, hnn⟩ := Int.eq_ofNat_of_zero_le hn.1
    have hx := List.getElem?_eq_getElem (show nn < qs.length by omega)
    have := (most_fits hok (hq nn _ hx).1).1 (H nn _ hx) h hm hnn
    rw [hnn, Int.toNat_natCast, List.getD_eq_getElem?_getD, hx]
    exact this))
theorem fit_bad {qs : List Int} {l : List Hd} (hok : ∀ h ∈ l, okHd qs.length h) {j : Nat} {q : Int} (hj : qs[j]? = some q) (hq : 0 ≤ q) (H : q < mostL (lvH l j)) : fitB qs l = false := by
  cases hf : fitB qs l with
  | false => rfl
  | true =>
    exfalso
    have : mostL (lvH l j) ≤ q := (most_fits hok hq).2 (fun h hm hn => by
      have := of_decide_eq_true (List.all_eq_true.1 hf h hm)
      rw [hn, Int.toNat_natCast, List.getD_eq_getElem?_getD, hj] at this
      exact this)
    omega
theorem lvH_len (l : List Hd) (n : Int) : (lvH l n).length ≤ 2 * l.length := by
  have := comb_len (Step.stored l n) (hts l n) 0
  have := hts_len2 l n
  unfold lvH; omega
set_option maxHeartbeats 16000000 in
theorem check28_spec (ρ τ σ : PH) (pq pc : Option Addr) (kq kc : Nat) (qs : List Int) (cs : List Ct) (v : Value) (l : List Hd) (hq : IntsAt ρ (.slice pq qs.length kq) qs) (hc : CtAt τ (.slice pc cs.length kc) cs) (hcap : cs.length ≤ kc) (lq : qs.length ≤ 9223372036854775807) (lc : cs.length ≤ 9223372036854775807) (hv : HdAt σ v l) (hl : l.length ≤ 9223372036854775807) :
    Ans Try.prog (fv 28) [.agg #[.slice pq qs.length kq, .slice pc cs.length kc], v] [ρ, τ, σ] (fun r => r = int (chkH qs cs l)) := by
  have hv2 := hv
  obtain ⟨q, c, rfl, hr⟩ := hv.val encH_len
  obtain ⟨_, _, e, hrq⟩ := hq.val Eng.encI_len
  simp only [Value.slice.injEq] at e
  obtain ⟨rfl, _, rfl⟩ := e
  refine spec_in (cap := []) Try.func28 rfl rfl Try.ntmps28 rfl (by (repeat (first | exact EnvA.nil EnvI.nil | apply EnvA.cons | apply EnvA.nil | exact EnvI.nil | apply EnvI.cons)); first | done | fail) (fun N β => ?_)
  refine jk_seq ?_
  refine jk_region ?_
  refine jk_op (l_boxS rfl) rfl rfl rfl ?_
  rintro _ _ ⟨b1, rfl, rfl⟩
  refine jk_freeze (ρ := sng b1 _) takeZ ?_
  have c1 : RdN (sng b1 (.cells #[.slice pq qs.length kq, .slice pc cs.length kc] 25 (0, 0))) b1 0 [.slice pq qs.length kq, .slice pc cs.length kc] := fun j u hu => by rw [rdc_sng, Nat.zero_add]; simpa using hu
  have c10 : rdc (sng b1 (.cells #[.slice pq qs.length kq, .slice pc cs.length kc] 25 (0, 0))) b1 0 = some (.slice pq qs.length kq) := by rw [rdc_sng]; rfl
  refine zq_assign ?_
  refine jk_nil ?_
  refine jk_seq ?_
  refine jk_seq ?_
  refine jk_region ?_
  refine zq_loadS ?_
  refine jk_call (planCheck_spec ρ τ pq pc kq kc qs cs hq hc hcap lq lc) rfl rfl rdZ rfl rfl ?_
  rintro _ rfl
  unfold chkH
  by_cases hp : chkPl qs cs = 0
  rotate_left
  · rw [if_pos hp]
    generalize chkPl qs cs = z at hp
    refine zq_ne ?_
    refine jk_nil ?_
    refine jk_if_t rfl ?_
    refine jk_seq ?_
    refine jk_region ?_
    refine zq_assign ?_
    refine jk_nil ?_
    exact jk_ret_any (res1 rfl rfl) (by (repeat (first | exact rs_nil | (refine rs_cons ?_ ?_; (focus ((repeat (first | exact .here | apply Mem.there | apply Take.there)); first | done | fail))) | exact fun ρ hρ => hρ | (intro ρ hρ; repeat (first | exact hρ | refine List.mem_cons_of_mem _ ?_)))); first | done | fail) selZ ⟨rfl, rfl⟩
  obtain ⟨hql, hquo⟩ := chkPl_quo hp
  rw [if_neg (fun h => h hp), hp]
  by_cases hbig : 512 < l.length
  · rw [if_pos hbig]
    refine zq_neF ?_
    refine jk_nil ?_
    refine jk_if_f rfl ?_
    refine jk_skip ?_
    refine jk_seq ?_
    refine jk_seq ?_
    refine jk_region ?_
    refine zq_move ?_
    refine zq_len ?_
    refine zq_gt ?_
    refine jk_nil ?_
    refine jk_if_t rfl ?_
    refine jk_seq ?_
    refine jk_region ?_
    refine zq_assign ?_
    refine jk_nil ?_
    exact jk_ret_any (res1 rfl rfl) (by (repeat (first | exact rs_nil | (refine rs_cons ?_ ?_; (focus ((repeat (first | exact .here | apply Mem.there | apply Take.there)); first | done | fail))) | exact fun ρ hρ => hρ | (intro ρ hρ; repeat (first | exact hρ | refine List.mem_cons_of_mem _ ?_)))); first | done | fail) selZ ⟨rfl, rfl⟩
  rw [if_neg hbig]
  refine zq_neF ?_
  refine jk_nil ?_
  refine jk_if_f rfl ?_
  refine jk_skip ?_
  refine jk_seq ?_
  refine jk_seq ?_
  refine jk_region ?_
  refine zq_move ?_
  refine zq_len ?_
  refine zq_gtF ?_
  refine jk_nil ?_
  refine jk_if_f rfl ?_
  refine jk_skip ?_
  refine jk_seq ?_
  refine jk_seq ?_
  refine jk_region ?_
  refine zq_move ?_
  refine zq_len ?_
  refine zq_move ?_
  refine jk_nil ?_
  refine jk_block ?_
  refine jk_loop [1, 2, 15, 16] (0 : Nat) (fun k => k ≤ l.length ∧ firstE (hdE qs.length l) k = 0) (fun k => [(17, int k)]) (fun _ => []) (fun k => l.length - k) pickZ ⟨by omega, rfl⟩ covZ selZ ?_
  rintro k ⟨hk, hI⟩
  by_cases hlt : k < l.length
  · have hx := List.getElem?_eq_getElem hlt
    obtain ⟨b2, o2, rfl, hrd, _⟩ := hdRow5 hr hx
    have hE := hdE_at (nq := qs.length) hx
    generalize l[k] = h at hrd hE
    have hva := valid28_spec (.slice pq qs.length kq) (.slice pc cs.length kc) ρ qs kq pq h rfl rfl
    refine jk_seq ?_
    refine jk_region ?_
    refine zq_lt ?_
    refine jk_nil ?_
    refine jk_seq ?_
    refine jk_if_t rfl ?_
    refine jk_skip ?_
    refine jk_seq ?_
    refine jk_block ?_
    refine jk_seq ?_
    refine jk_region ?_
    refine zq_move ?_
    refine zq_idxN ?_
    refine zq_loadS ?_
    refine zl_allocS ?_; rintro _ _ ⟨b, rfl, rfl⟩
    refine zq_assign ?_
    refine zs_storeS ?_; rintro _ _ ⟨rfl, rfl⟩
    refine jk_nil ?_
    refine jk_seq ?_
    refine jk_seq ?_
    refine jk_region ?_
    refine zq_loadS ?_
    refine zq_loadS ?_
    revert b; intro b6
    refine jk_call hva rfl rfl rdZ rfl rfl ?_
    rintro _ rfl
    by_cases hok : okHd qs.length h
    rotate_left
    · rw [if_pos hok] at hE
      have hh := firstE_hit hI (by rw [hE]; decide) _ hlt
      rw [if_pos (by rw [hh, hE]; decide), hh, hE, decide_eq_false hok]
      refine zq_not ?_
      refine jk_nil ?_
      refine jk_if_t rfl ?_
      refine jk_seq ?_
      refine jk_region ?_
      refine zq_assign ?_
      refine jk_nil ?_
      exact jk_ret_any (res1 rfl rfl) (by (repeat (first | exact rs_nil | (refine rs_cons ?_ ?_; (focus ((repeat (first | exact .here | apply Mem.there | apply Take.there)); first | done | fail))) | exact fun ρ hρ => hρ | (intro ρ hρ; repeat (first | exact hρ | refine List.mem_cons_of_mem _ ?_)))); first | done | fail) selZ ⟨rfl, rfl⟩
    rw [if_neg (fun hh => hh hok)] at hE
    rw [decide_eq_true hok]
    refine zq_not ?_
    refine jk_nil ?_
    refine jk_if_f rfl ?_
    refine jk_skip ?_
    refine jk_seq ?_
    by_cases h0 : k = 0
    · subst h0
      rw [if_neg (by omega)] at hE
      refine jk_draw (.q 0 (.q 1 (.q 2 (.q 3 (.q 4 (.q 5 (.q 6 (.q 7 (.q 8 (.q 9 (.q 10 (.q 11 .nil)))))))))))) [sng b6 _] rfl (by kernel_rfl) selZ ?_
      refine zd_move ?_
      refine zd_gtF ?_
      refine zd_move ?_
      refine dj_pass rfl rfl rfl rfl rfl ?_
      refine dj_pass rfl rfl rfl rfl rfl ?_
      refine dj_pass rfl rfl rfl rfl rfl ?_
      refine dj_pass rfl rfl rfl rfl rfl ?_
      refine dj_pass rfl rfl rfl rfl rfl ?_
      refine dj_pass rfl rfl rfl rfl rfl ?_
      refine dj_pass rfl rfl rfl rfl rfl ?_
      refine dj_pass rfl rfl rfl rfl rfl ?_
      refine zd_pick_f ?_
      refine dj_end ?_
      refine jk_if_f rfl ?_
      refine jk_skip ?_
      refine jk_blk ?_
      refine jk_region ?_
      refine zq_inc ?_
      refine zq_move ?_
      refine jk_nil ?_
      exact jk_round (0 + 1) ⟨by omega, firstE_ok hI hE⟩ (by omega) covZ selZ
    · have hlt' : k - 1 < l.length := by omega
      have hx' := List.getElem?_eq_getElem hlt'
      obtain ⟨_, _, e, hrd', _⟩ := hdRow5 hr hx'
      simp only [Option.some.injEq, Addr.mk.injEq, and_true] at e
      obtain ⟨rfl, rfl⟩ := e
      rw [List.getD_eq_getElem?_getD, hx', Option.getD_some] at hE
      generalize l[k - 1] = g at hrd' hE
      have hle := compare_spec g h
      generalize cmpHd g h = z at hle hE
      refine jk_draw (.q 0 (.q 1 (.q 2 (.q 3 (.q 4 (.q 5 (.q 6 (.q 7 (.q 8 (.l 9 .e (.q 10 (.q 11 .nil)))))))))))) [sng b6 _] rfl (by kernel_rfl) selZ ?_
      refine zd_move ?_
      refine zd_gt ?_
      refine zd_move ?_
      refine zd_move ?_
      refine zd_move ?_
      refine zd_sub_nat ?_
      refine zd_idxN ?_
      refine zd_loadS ?_
      refine zd_loadS ?_
      refine dj_l (a_call rfl hle rfl rfl rdZ rfl rfl ?_)
      rintro _ rfl
      by_cases hc9 : 0 < z
      · rw [if_pos (by omega)] at hE
        have hh := firstE_hit hI (by rw [hE]; decide) _ hlt
        rw [if_pos (by rw [hh, hE]; decide), hh, hE]
        refine zd_gt ?_
        refine zd_pick_t ?_
        refine dj_end ?_
        refine jk_if_t rfl ?_
        refine jk_seq ?_
        refine jk_region ?_
        refine zq_assign ?_
        refine jk_nil ?_
        exact jk_ret_any (res1 rfl rfl) (by (repeat (first | exact rs_nil | (refine rs_cons ?_ ?_; (focus ((repeat (first | exact .here | apply Mem.there | apply Take.there)); first | done | fail))) | exact fun ρ hρ => hρ | (intro ρ hρ; repeat (first | exact hρ | refine List.mem_cons_of_mem _ ?_)))); first | done | fail) selZ ⟨rfl, rfl⟩
      · rw [if_neg (by omega)] at hE
        refine zd_gtF ?_
        refine zd_pick_t ?_
        refine dj_end ?_
        refine jk_if_f rfl ?_
        refine jk_skip ?_
        refine jk_blk ?_
        refine jk_region ?_
        refine zq_inc ?_
        refine zq_move ?_
        refine jk_nil ?_
        exact jk_round (k + 1) ⟨by omega, firstE_ok hI hE⟩ (by omega) covZ selZ
  have hke : k = l.length := by omega
  subst hke
  have hok := hdE_ok hI
  rw [List.take_length] at hok
  rw [if_neg (by rw [hI]; simp)]
  clear hI hk hlt
  refine jk_seq ?_
  refine jk_region ?_
  refine zq_ltF ?_
  refine jk_nil ?_
  refine jk_seq ?_
  refine jk_if_f rfl ?_
  refine jk_exit rfl ?_
  refine jk_seq ?_
  refine jk_seq ?_
  refine jk_region ?_
  refine zq_fld0 ?_
  refine zq_load ?_
  refine zq_len ?_
  refine zq_move ?_
  refine jk_nil ?_
  refine jk_block ?_
  refine jk_loop [1, 40, 41] (0 : Nat) (fun k => k ≤ qs.length ∧ ∀ (j : Nat) (q : Int), j < k → qs[j]? = some q → mostL (lvH l j) ≤ q) (fun k => [(42, int k)]) (fun _ => []) (fun k => qs.length - k) pickZ ⟨by omega, fun j q h => by omega⟩ covZ selZ ?_
  rintro k ⟨hk, hI⟩
  by_cases hlt : k < qs.length
  · have hx := List.getElem?_eq_getElem hlt
    obtain ⟨b2, o2, rfl, g1⟩ := hrq.int hx
    have hq0 := hquo k _ hx
    have hbad := @fit_bad qs l hok k _ hx hq0.1
    have hnext : mostL (lvH l k) ≤ qs[k] → ∀ (j : Nat) (q : Int), j < k + 1 → qs[j]? = some q → mostL (lvH l j) ≤ q := fun hle j q hj hjq => by
      by_cases e : j = k
      · subst e; rw [hx] at hjq; injection hjq with hjq; rw [← hjq]; exact hle
      · exact hI j q (by omega) hjq
    generalize qs[k] = qv at g1 hbad hnext
    refine jk_seq ?_
    refine jk_region ?_
    refine zq_lt ?_
    refine jk_nil ?_
    refine jk_seq ?_
    refine jk_if_t rfl ?_
    refine jk_skip ?_
    refine jk_seq ?_
    refine jk_block ?_
    refine jk_seq ?_
    refine jk_region ?_
    refine zq_move ?_
    refine zq_idx1 ?_
    refine zq_load ?_
    refine zq_assign ?_
    refine zq_assign ?_
    refine jk_nil ?_
    refine jk_seq ?_
    refine jk_region ?_
    refine zq_move ?_
    refine zq_move ?_
    refine jk_callM (levels_spec σ _ l k qs.length hv2 hok (by omega)) rfl rfl rdZ rfl rfl ?_
    rintro ul σl hOl
    have hL : LvAt σl ul (lvH l k) := hOl.at
    have hll := lvH_len l k
    refine jk_call (most_spec σl ul (lvH l k) hL (by omega)) rfl rfl rdZ rfl rfl ?_
    rintro _ rfl
    generalize mostL (lvH l k) = mv at hbad hnext
    by_cases hcq : qv < mv
    · rw [hbad hcq]
      refine zq_move ?_
      refine zq_gt ?_
      refine jk_nil ?_
      refine jk_if_t rfl ?_
      refine jk_seq ?_
      refine jk_region ?_
      refine zq_assign ?_
      refine jk_nil ?_
      exact jk_ret_any (res1 rfl rfl) (by (repeat (first | exact rs_nil | (refine rs_cons ?_ ?_; (focus ((repeat (first | exact .here | apply Mem.there | apply Take.there)); first | done | fail))) | exact fun ρ hρ => hρ | (intro ρ hρ; repeat (first | exact hρ | refine List.mem_cons_of_mem _ ?_)))); first | done | fail) selZ ⟨rfl, rfl⟩
    · have hn2 := hnext (by omega)
      refine zq_move ?_
      refine zq_gtF ?_
      refine jk_nil ?_
      refine jk_if_f rfl ?_
      refine jk_skip ?_
      refine jk_blk ?_
      refine jk_region ?_
      refine zq_inc ?_
      refine zq_move ?_
      refine jk_nil ?_
      exact jk_round (k + 1) ⟨by omega, hn2⟩ (by omega) covZ selZ
  have hke : k = qs.length := by omega
  subst hke
  rw [fit_all hok hquo (fun j q hj => hI j q (List.getElem?_eq_some_iff.1 hj).1 hj)]
  refine jk_seq ?_
  refine jk_region ?_
  refine zq_ltF ?_
  refine jk_nil ?_
  refine jk_seq ?_
  refine jk_if_f rfl ?_
  refine jk_exit rfl ?_
  refine jk_seq ?_
  refine jk_region ?_
  refine zq_assign ?_
  refine jk_nil ?_
  exact jk_ret_any (res1 rfl rfl) (by (repeat (first | exact rs_nil | (refine rs_cons ?_ ?_; (focus ((repeat (first | exact .here | apply Mem.there | apply Take.there)); first | done | fail))) | exact fun ρ hρ => hρ | (intro ρ hρ; repeat (first | exact hρ | refine List.mem_cons_of_mem _ ?_)))); first | done | fail) selZ ⟨rfl, rfl⟩
end Go.Proofs.Ytnbihndlbopmeaa
/- Profiles and peaks, of the program and of the reference. -/
namespace Go.Proofs.Ytnbihndlbopmeaa
open Go.Eng Go.Step
set_option maxRecDepth 100000
set_option maxHeartbeats 4000000

theorem chkH_pl {qs : List Int} {cs : List Ct} {l : List Hd} (h : chkH qs cs l = 0) : chkPl qs cs = 0 := by
  unfold chkH at h
  split at h
  · omega
  · rename_i hp; exact Decidable.not_not.1 hp
theorem chkH_ok {qs : List Int} {cs : List Ct} {l : List Hd} (h : chkH qs cs l = 0) : (∀ x ∈ l, okHd qs.length x) ∧ l.length ≤ 512 ∧ (1 ≤ qs.length ∧ qs.length ≤ 16) := by
  unfold chkH at h
  split at h
  · omega
  · rename_i hp
    split at h
    · omega
    · split at h
      · rename_i h2; exact absurd h h2
      · rename_i h1 h2
        have h3 : firstE (hdE qs.length l) l.length = 0 := Decidable.not_not.1 h2
        have := hdE_ok h3
        rw [List.take_length] at this
        exact ⟨this, by omega, (chkPl_quo (Decidable.not_not.1 hp)).1⟩
def profR (qs : List Int) (cs : List Ct) (l : List Hd) (n : Int) : List Lv × Int :=
  if chkH qs cs l ≠ 0 then ([], 1) else if n < 0 ∨ (qs.length : Int) ≤ n then ([], 2) else if 1000 < (lvH l n).length then ([], 4) else (lvH l n, 0)
def peakR (qs : List Int) (cs : List Ct) (l : List Hd) (n : Int) : Int × Int :=
  if chkH qs cs l ≠ 0 then (0, 1) else if n < 0 ∨ (qs.length : Int) ≤ n then (0, 2) else (mostL (lvH l n), 0)
def grtH (qs : List Int) (cs : List Ct) (l : List Hd) : Bool := decide (8 < qs.length ∨ 12 < cs.length ∨ (16 < l.length ∧ l.length < 512) ∨ 513 < l.length)
theorem great28_spec (pq pc pl : Option Addr) (kq kc kl : Nat) (qs : List Int) (cs : List Ct) (l : List Hd) : Ans Try.prog (fv 9) [.agg #[.slice pq qs.length kq, .slice pc cs.length kc], .slice pl l.length kl] [] (fun r => r = .bool (grtH qs cs l)) := by
  refine spec_in (cap := []) Try.func9 rfl rfl Try.ntmps9 rfl (by (repeat (first | exact EnvA.nil EnvI.nil | apply EnvA.cons | apply EnvA.nil | exact EnvI.nil | apply EnvI.cons)); first | done | fail) (fun N β => ?_)
  repeat' (first
    | (first | (first | (refine zq_move ?_) | (refine zq_assign ?_) | (refine zq_extract ?_) | (refine zq_load ?_) | (refine zq_fld0 ?_) | (refine zq_fldZ ?_) | (refine zq_fld ?_) | (refine zq_idx0 ?_) | (refine zq_idx1 ?_) | (refine zq_idxN ?_) | (refine zq_idxZ ?_) | (refine zq_pick_t ?_)) | (first | (refine zq_pick_f ?_) | (refine zq_len ?_) | (refine zq_not ?_) | (refine zq_nilCheck ?_) | (refine zq_nilCheckF ?_) | (refine zq_nilCheckY ?_) | (refine zq_inc ?_) | (refine zq_lt ?_) | (refine zq_ltF ?_) | (refine zq_eq ?_) | (refine zq_eqF ?_) | (refine zq_ne ?_)) | (first | (refine zq_neF ?_) | (refine zq_gt ?_) | (refine zq_gtF ?_) | (refine zq_le ?_) | (refine zq_leF ?_) | (refine zq_ge ?_) | (refine zq_geF ?_) | (refine zq_sub_nat ?_) | (refine zq_add ?_) | (refine zq_sub ?_) | (refine zq_dbl ?_) | (refine zq_mul ?_)) | (first | (refine zq_half ?_) | (refine zq_par ?_) | (refine zq_quo ?_) | (refine zq_rem ?_) | (refine zq_loadS ?_) | (refine zq_min ?_) | (refine zq_max ?_) | (refine zq_makeFunc ?_) | (refine zq_eqBool ?_) | (refine zq_toInt ?_) | (refine zq_cap ?_) | (refine zq_cutHi ?_)) | (first | (refine zq_cutLo ?_) | (refine zq_cutLoHi ?_) | (refine zq_field ?_) | (refine zq_build ?_) | (refine zq_neg ?_)))
    | refine jk_seq ?_
    | refine jk_region ?_
    | refine jk_nil ?_
    | refine jk_block ?_
    | refine jk_blk ?_
    | refine jk_skip ?_
    | refine jk_if_t rfl ?_
    | refine jk_if_f rfl ?_
    | refine jk_exit rfl ?_
    | refine jk_pass rfl rfl rfl ?_
    | (first | (refine zl_makeV ?_; rintro _ _ ⟨b, rfl, rfl⟩) | (refine zl_makeI ?_; rintro _ _ ⟨b, rfl, rfl⟩) | (refine zl_makeB ?_; rintro _ _ ⟨b, rfl, rfl⟩) | (refine zl_allocS ?_; rintro _ _ ⟨b, rfl, rfl⟩) | (refine zl_alloc1 ?_; rintro _ _ ⟨b, rfl, rfl⟩) | (refine zl_buildSlice ?_; rintro _ _ ⟨b, rfl, rfl⟩) | (refine zl_boxS ?_; rintro _ _ ⟨b, rfl, rfl⟩) | (refine zl_box1 ?_; rintro _ _ ⟨b, rfl, rfl⟩))
    | (first | (refine zs_storeI ?_; rintro _ _ ⟨rfl, rfl⟩) | (refine zs_storeB ?_; rintro _ _ ⟨rfl, rfl⟩) | (refine zs_storeS ?_; rintro _ _ ⟨rfl, rfl⟩) | (refine zs_storeL ?_; rintro _ _ ⟨rfl, rfl⟩) | (refine zs_store ?_; rintro _ _ ⟨rfl, rfl⟩))
    | (refine jk_cmp rfl rfl (cmp_eq _ _) rfl rfl (fun h => ?_) (fun h => ?_))
    | (refine jk_cmp rfl rfl (cmp_ne _ _) rfl rfl (fun h => ?_) (fun h => ?_))
    | (refine jk_cmp rfl rfl (cmp_lt _ _) rfl rfl (fun h => ?_) (fun h => ?_))
    | (refine jk_cmp rfl rfl (cmp_le _ _) rfl rfl (fun h => ?_) (fun h => ?_))
    | (refine jk_cmp rfl rfl (cmp_gt _ _) rfl rfl (fun h => ?_) (fun h => ?_))
    | (refine jk_cmp rfl rfl (cmp_ge _ _) rfl rfl (fun h => ?_) (fun h => ?_))
    | (refine jk_if rfl (fun h => ?_) (fun h => ?_))
    | fail)
  all_goals (refine jk_ret_any (res1 rfl rfl) (by (repeat (first | exact rs_nil | (refine rs_cons ?_ ?_; (focus ((repeat (first | exact .here | apply Mem.there | apply Take.there)); first | done | fail))) | exact fun ρ hρ => hρ | (intro ρ hρ; repeat (first | exact hρ | refine List.mem_cons_of_mem _ ?_)))); first | done | fail) selZ ⟨rfl, ?_⟩; congr 1; unfold grtH; first | exact (decide_eq_false (by omega)).symm | exact (decide_eq_true (by omega)).symm)
set_option maxHeartbeats 16000000 in
theorem profile_spec (ρ τ σ : PH) (pq pc : Option Addr) (kq kc : Nat) (qs : List Int) (cs : List Ct) (v : Value) (l : List Hd) (n : Int) (hq : IntsAt ρ (.slice pq qs.length kq) qs) (hc : CtAt τ (.slice pc cs.length kc) cs) (hcap : cs.length ≤ kc) (lq : qs.length ≤ 9223372036854775807) (lc : cs.length ≤ 9223372036854775807) (hv : HdAt σ v l) (hl : l.length ≤ 9223372036854775807) :
    Makes Try.prog (fv 11) [.agg #[.slice pq qs.length kq, .slice pc cs.length kc], v, int n] [ρ, τ, σ] (fun r σ' => ∃ u, r = .tuple #[u, int (profR qs cs l n).2] ∧ OwnS 40 2 u (profR qs cs l n).1.length ((profR qs cs l n).1.flatMap encV) σ') := by
  have hv2 := hv
  obtain ⟨q, c, rfl, hr⟩ := hv.val encH_len
  refine spec_in (cap := []) Try.func11 rfl rfl Try.ntmps11 rfl (by (repeat (first | exact EnvA.nil EnvI.nil | apply EnvA.cons | apply EnvA.nil | exact EnvI.nil | apply EnvI.cons)); first | done | fail) (fun N β => ?_)
  refine jk_emp ?_
  refine jk_seq ?_
  refine jk_region ?_
  refine jk_op (l_boxS rfl) rfl rfl rfl ?_
  rintro _ _ ⟨b1, rfl, rfl⟩
  refine jk_freeze (ρ := sng b1 _) takeZ ?_
  have c1 : RdN (sng b1 (.cells #[.slice pq qs.length kq, .slice pc cs.length kc] 25 (0, 0))) b1 0 [.slice pq qs.length kq, .slice pc cs.length kc] := fun j u hu => by rw [rdc_sng, Nat.zero_add]; simpa using hu
  have c10 : rdc (sng b1 (.cells #[.slice pq qs.length kq, .slice pc cs.length kc] 25 (0, 0))) b1 0 = some (.slice pq qs.length kq) := by rw [rdc_sng]; rfl
  refine zq_assign ?_
  refine zq_assign ?_
  refine jk_nil ?_
  refine jk_seq ?_
  refine jk_seq ?_
  refine jk_region ?_
  refine zq_loadS ?_
  refine zq_move ?_
  refine jk_call (check28_spec ρ τ σ pq pc kq kc qs cs _ l hq hc hcap lq lc hv2 hl) rfl rfl rdZ rfl rfl ?_
  rintro _ rfl
  by_cases h0 : chkH qs cs l = 0
  rotate_left
  · have hR : profR qs cs l n = ([], 1) := by unfold profR; rw [if_pos h0]
    rw [hR]
    generalize chkH qs cs l = z at h0
    refine zq_ne ?_
    refine jk_nil ?_
    refine jk_if_t rfl ?_
    refine jk_seq ?_
    refine jk_region ?_
    refine zq_assign ?_
    refine zq_assign ?_
    refine jk_nil ?_
    exact jk_ret_any (res2 rfl rfl rfl) (by (repeat (first | exact rs_nil | (refine rs_cons ?_ ?_; (focus ((repeat (first | exact .here | apply Mem.there | apply Take.there)); first | done | fail))) | exact fun ρ hρ => hρ | (intro ρ hρ; repeat (first | exact hρ | refine List.mem_cons_of_mem _ ?_)))); first | done | fail) selZ ⟨emp, ⟨_, rfl, OwnS.nil _ _⟩, rfl⟩
  rw [h0]
  obtain ⟨hok, hlen, hql⟩ := chkH_ok h0
  by_cases hn1 : n < 0
  · have hR : profR qs cs l n = ([], 2) := by unfold profR; rw [if_neg (fun h => h h0), if_pos (.inl hn1)]
    rw [hR]
    refine zq_neF ?_
    refine jk_nil ?_
    refine jk_if_f rfl ?_
    refine jk_skip ?_
    refine jk_seq ?_
    refine jk_seq ?_
    refine jk_region ?_
    refine zq_move ?_
    refine zq_lt ?_
    refine zq_move ?_
    refine jk_pass rfl rfl rfl ?_
    refine jk_pass rfl rfl rfl ?_
    refine jk_pass rfl rfl rfl ?_
    refine jk_pass rfl rfl rfl ?_
    refine jk_pass rfl rfl rfl ?_
    refine zq_pick_t ?_
    refine jk_nil ?_
    refine jk_if_t rfl ?_
    refine jk_seq ?_
    refine jk_region ?_
    refine zq_assign ?_
    refine zq_assign ?_
    refine jk_nil ?_
    exact jk_ret_any (res2 rfl rfl rfl) (by (repeat (first | exact rs_nil | (refine rs_cons ?_ ?_; (focus ((repeat (first | exact .here | apply Mem.there | apply Take.there)); first | done | fail))) | exact fun ρ hρ => hρ | (intro ρ hρ; repeat (first | exact hρ | refine List.mem_cons_of_mem _ ?_)))); first | done | fail) selZ ⟨emp, ⟨_, rfl, OwnS.nil _ _⟩, rfl⟩
  by_cases hn2 : (qs.length : Int) ≤ n
  · have hR : profR qs cs l n = ([], 2) := by unfold profR; rw [if_neg (fun h => h h0), if_pos (.inr hn2)]
    rw [hR]
    refine zq_neF ?_
    refine jk_nil ?_
    refine jk_if_f rfl ?_
    refine jk_skip ?_
    refine jk_seq ?_
    refine jk_seq ?_
    refine jk_region ?_
    refine zq_move ?_
    refine zq_ltF ?_
    refine zq_move ?_
    refine zq_move ?_
    refine zq_fld0 ?_
    refine zq_load ?_
    refine zq_len ?_
    refine zq_ge ?_
    refine zq_pick_f ?_
    refine jk_nil ?_
    refine jk_if_t rfl ?_
    refine jk_seq ?_
    refine jk_region ?_
    refine zq_assign ?_
    refine zq_assign ?_
    refine jk_nil ?_
    exact jk_ret_any (res2 rfl rfl rfl) (by (repeat (first | exact rs_nil | (refine rs_cons ?_ ?_; (focus ((repeat (first | exact .here | apply Mem.there | apply Take.there)); first | done | fail))) | exact fun ρ hρ => hρ | (intro ρ hρ; repeat (first | exact hρ | refine List.mem_cons_of_mem _ ?_)))); first | done | fail) selZ ⟨emp, ⟨_, rfl, OwnS.nil _ _⟩, rfl⟩
  refine zq_neF ?_
  refine jk_nil ?_
  refine jk_if_f rfl ?_
  refine jk_skip ?_
  refine jk_seq ?_
  refine jk_seq ?_
  refine jk_region ?_
  refine zq_move ?_
  refine zq_ltF ?_
  refine zq_move ?_
  refine zq_move ?_
  refine zq_fld0 ?_
  refine zq_load ?_
  refine zq_len ?_
  refine zq_geF ?_
  refine zq_pick_f ?_
  refine jk_nil ?_
  refine jk_if_f rfl ?_
  refine jk_skip ?_
  refine jk_seq ?_
  refine jk_region ?_
  refine zq_move ?_
  refine zq_move ?_
  refine jk_callM (levels_spec σ _ l n qs.length hv2 hok (by omega)) rfl rfl rdZ rfl rfl ?_
  rintro ul σl hOl
  obtain ⟨pl, cl, rfl⟩ := SlAt.cap hOl.at
  have hll := lvH_len l n
  by_cases hbig : 1000 < (lvH l n).length
  · have hR : profR qs cs l n = ([], 4) := by unfold profR; rw [if_neg (fun h => h h0), if_neg (by omega), if_pos hbig]
    rw [hR]
    refine zq_assign ?_
    refine jk_nil ?_
    refine jk_seq ?_
    refine jk_seq ?_
    refine jk_region ?_
    refine zq_move ?_
    refine zq_len ?_
    refine zq_gt ?_
    refine jk_nil ?_
    refine jk_if_t rfl ?_
    refine jk_seq ?_
    refine jk_region ?_
    refine zq_assign ?_
    refine zq_assign ?_
    refine jk_nil ?_
    exact jk_ret_any (res2 rfl rfl rfl) (by (repeat (first | exact rs_nil | (refine rs_cons ?_ ?_; (focus ((repeat (first | exact .here | apply Mem.there | apply Take.there)); first | done | fail))) | exact fun ρ hρ => hρ | (intro ρ hρ; repeat (first | exact hρ | refine List.mem_cons_of_mem _ ?_)))); first | done | fail) selZ ⟨emp, ⟨_, rfl, OwnS.nil _ _⟩, rfl⟩
  have hR : profR qs cs l n = (lvH l n, 0) := by unfold profR; rw [if_neg (fun h => h h0), if_neg (by omega), if_neg hbig]
  rw [hR]
  refine zq_assign ?_
  refine jk_nil ?_
  refine jk_seq ?_
  refine jk_seq ?_
  refine jk_region ?_
  refine zq_move ?_
  refine zq_len ?_
  refine zq_gtF ?_
  refine jk_nil ?_
  refine jk_if_f rfl ?_
  refine jk_skip ?_
  refine jk_seq ?_
  refine jk_region ?_
  refine zq_move ?_
  refine zq_assign ?_
  refine zq_assign ?_
  refine jk_nil ?_
  exact jk_ret_any (res2 rfl rfl rfl) (by (repeat (first | exact rs_nil | (refine rs_cons ?_ ?_; (focus ((repeat (first | exact .here | apply Mem.there | apply Take.there)); first | done | fail))) | exact fun ρ hρ => hρ | (intro ρ hρ; repeat (first | exact hρ | refine List.mem_cons_of_mem _ ?_)))); first | done | fail) selZ ⟨σl, ⟨_, rfl, hOl⟩, rfl⟩
set_option maxHeartbeats 16000000 in
theorem refProfile_spec (ρ τ σ : PH) (pq pc : Option Addr) (kq kc : Nat) (qs : List Int) (cs : List Ct) (v : Value) (l : List Hd) (n : Int) (hq : IntsAt ρ (.slice pq qs.length kq) qs) (hc : CtAt τ (.slice pc cs.length kc) cs) (hcap : cs.length ≤ kc) (lq : qs.length ≤ 9223372036854775807) (lc : cs.length ≤ 9223372036854775807) (hv : HdAt σ v l) (hl : l.length ≤ 9223372036854775807) :
    Makes Try.prog (fv 12) [.agg #[.slice pq qs.length kq, .slice pc cs.length kc], v, int n] [ρ, τ, σ] (fun r σ' => ∃ u, r = .tuple #[u, int (profR qs cs l n).2] ∧ OwnS 40 2 u (profR qs cs l n).1.length ((profR qs cs l n).1.flatMap encV) σ') := by
  have hv2 := hv
  obtain ⟨q, c, rfl, hr⟩ := hv.val encH_len
  refine spec_in (cap := []) Try.func12 rfl rfl Try.ntmps12 rfl (by (repeat (first | exact EnvA.nil EnvI.nil | apply EnvA.cons | apply EnvA.nil | exact EnvI.nil | apply EnvI.cons)); first | done | fail) (fun N β => ?_)
  refine jk_seq ?_
  refine jk_region ?_
  refine jk_op (l_boxS rfl) rfl rfl rfl ?_
  rintro _ _ ⟨b1, rfl, rfl⟩
  refine jk_freeze (ρ := sng b1 _) takeZ ?_
  have c1 : RdN (sng b1 (.cells #[.slice pq qs.length kq, .slice pc cs.length kc] 25 (0, 0))) b1 0 [.slice pq qs.length kq, .slice pc cs.length kc] := fun j u hu => by rw [rdc_sng, Nat.zero_add]; simpa using hu
  have c10 : rdc (sng b1 (.cells #[.slice pq qs.length kq, .slice pc cs.length kc] 25 (0, 0))) b1 0 = some (.slice pq qs.length kq) := by rw [rdc_sng]; rfl
  refine zq_assign ?_
  refine zq_assign ?_
  refine jk_nil ?_
  refine jk_seq ?_
  refine jk_seq ?_
  refine jk_region ?_
  refine zq_loadS ?_
  refine zq_move ?_
  refine jk_call (refCheck28_spec ρ τ σ pq pc kq kc qs cs _ l hq hc lq lc hv2 hl) rfl rfl rdZ rfl rfl ?_
  rintro _ rfl
  by_cases h0 : chkH qs cs l = 0
  rotate_left
  · have hR : profR qs cs l n = ([], 1) := by unfold profR; rw [if_pos h0]
    rw [hR]
    generalize chkH qs cs l = z at h0
    refine zq_ne ?_
    refine jk_nil ?_
    refine jk_if_t rfl ?_
    refine jk_seq ?_
    refine jk_region ?_
    refine zl_buildSlice ?_; rintro _ _ ⟨b, rfl, rfl⟩
    refine zq_assign ?_
    refine zq_assign ?_
    refine jk_nil ?_
    exact jk_ret_any (res2 rfl rfl rfl) (by (repeat (first | exact rs_nil | (refine rs_cons ?_ ?_; (focus ((repeat (first | exact .here | apply Mem.there | apply Take.there)); first | done | fail))) | exact fun ρ hρ => hρ | (intro ρ hρ; repeat (first | exact hρ | refine List.mem_cons_of_mem _ ?_)))); first | done | fail) selZ ⟨sng b _, ⟨_, rfl, OwnS.empty⟩, rfl⟩
  rw [h0]
  obtain ⟨hok, hlen, hql⟩ := chkH_ok h0
  by_cases hn1 : n < 0
  · have hR : profR qs cs l n = ([], 2) := by unfold profR; rw [if_neg (fun h => h h0), if_pos (.inl hn1)]
    rw [hR]
    refine zq_neF ?_
    refine jk_nil ?_
    refine jk_if_f rfl ?_
    refine jk_skip ?_
    refine jk_seq ?_
    refine jk_seq ?_
    refine jk_region ?_
    refine zq_move ?_
    refine zq_lt ?_
    refine zq_move ?_
    refine jk_pass rfl rfl rfl ?_
    refine jk_pass rfl rfl rfl ?_
    refine jk_pass rfl rfl rfl ?_
    refine jk_pass rfl rfl rfl ?_
    refine jk_pass rfl rfl rfl ?_
    refine zq_pick_t ?_
    refine jk_nil ?_
    refine jk_if_t rfl ?_
    refine jk_seq ?_
    refine jk_region ?_
    refine zl_buildSlice ?_; rintro _ _ ⟨b, rfl, rfl⟩
    refine zq_assign ?_
    refine zq_assign ?_
    refine jk_nil ?_
    exact jk_ret_any (res2 rfl rfl rfl) (by (repeat (first | exact rs_nil | (refine rs_cons ?_ ?_; (focus ((repeat (first | exact .here | apply Mem.there | apply Take.there)); first | done | fail))) | exact fun ρ hρ => hρ | (intro ρ hρ; repeat (first | exact hρ | refine List.mem_cons_of_mem _ ?_)))); first | done | fail) selZ ⟨sng b _, ⟨_, rfl, OwnS.empty⟩, rfl⟩
  by_cases hn2 : (qs.length : Int) ≤ n
  · have hR : profR qs cs l n = ([], 2) := by unfold profR; rw [if_neg (fun h => h h0), if_pos (.inr hn2)]
    rw [hR]
    refine zq_neF ?_
    refine jk_nil ?_
    refine jk_if_f rfl ?_
    refine jk_skip ?_
    refine jk_seq ?_
    refine jk_seq ?_
    refine jk_region ?_
    refine zq_move ?_
    refine zq_ltF ?_
    refine zq_move ?_
    refine zq_move ?_
    refine zq_fld0 ?_
    refine zq_load ?_
    refine zq_len ?_
    refine zq_ge ?_
    refine zq_pick_f ?_
    refine jk_nil ?_
    refine jk_if_t rfl ?_
    refine jk_seq ?_
    refine jk_region ?_
    refine zl_buildSlice ?_; rintro _ _ ⟨b, rfl, rfl⟩
    refine zq_assign ?_
    refine zq_assign ?_
    refine jk_nil ?_
    exact jk_ret_any (res2 rfl rfl rfl) (by (repeat (first | exact rs_nil | (refine rs_cons ?_ ?_; (focus ((repeat (first | exact .here | apply Mem.there | apply Take.there)); first | done | fail))) | exact fun ρ hρ => hρ | (intro ρ hρ; repeat (first | exact hρ | refine List.mem_cons_of_mem _ ?_)))); first | done | fail) selZ ⟨sng b _, ⟨_, rfl, OwnS.empty⟩, rfl⟩
  refine zq_neF ?_
  refine jk_nil ?_
  refine jk_if_f rfl ?_
  refine jk_skip ?_
  refine jk_seq ?_
  refine jk_seq ?_
  refine jk_region ?_
  refine zq_move ?_
  refine zq_ltF ?_
  refine zq_move ?_
  refine zq_move ?_
  refine zq_fld0 ?_
  refine zq_load ?_
  refine zq_len ?_
  refine zq_geF ?_
  refine zq_pick_f ?_
  refine jk_nil ?_
  refine jk_if_f rfl ?_
  refine jk_skip ?_
  refine jk_seq ?_
  refine jk_region ?_
  refine zq_move ?_
  refine zq_move ?_
  refine jk_callM (refLevels_spec σ _ l n qs.length hv2 hok (by omega)) rfl rfl rdZ rfl rfl ?_
  rintro ul σl hOl
  obtain ⟨pl, cl, rfl⟩ := SlAt.cap hOl.at
  have hll := lvH_len l n
  by_cases hbig : 1000 < (lvH l n).length
  · have hR : profR qs cs l n = ([], 4) := by unfold profR; rw [if_neg (fun h => h h0), if_neg (by omega), if_pos hbig]
    rw [hR]
    refine zq_assign ?_
    refine jk_nil ?_
    refine jk_seq ?_
    refine jk_seq ?_
    refine jk_region ?_
    refine zq_move ?_
    refine zq_len ?_
    refine zq_gt ?_
    refine jk_nil ?_
    refine jk_if_t rfl ?_
    refine jk_seq ?_
    refine jk_region ?_
    refine zl_buildSlice ?_; rintro _ _ ⟨b, rfl, rfl⟩
    refine zq_assign ?_
    refine zq_assign ?_
    refine jk_nil ?_
    exact jk_ret_any (res2 rfl rfl rfl) (by (repeat (first | exact rs_nil | (refine rs_cons ?_ ?_; (focus ((repeat (first | exact .here | apply Mem.there | apply Take.there)); first | done | fail))) | exact fun ρ hρ => hρ | (intro ρ hρ; repeat (first | exact hρ | refine List.mem_cons_of_mem _ ?_)))); first | done | fail) selZ ⟨sng b _, ⟨_, rfl, OwnS.empty⟩, rfl⟩
  have hR : profR qs cs l n = (lvH l n, 0) := by unfold profR; rw [if_neg (fun h => h h0), if_neg (by omega), if_neg hbig]
  rw [hR]
  refine zq_assign ?_
  refine jk_nil ?_
  refine jk_seq ?_
  refine jk_seq ?_
  refine jk_region ?_
  refine zq_move ?_
  refine zq_len ?_
  refine zq_gtF ?_
  refine jk_nil ?_
  refine jk_if_f rfl ?_
  refine jk_skip ?_
  refine jk_seq ?_
  refine jk_region ?_
  refine zq_move ?_
  refine zq_assign ?_
  refine zq_assign ?_
  refine jk_nil ?_
  exact jk_ret_any (res2 rfl rfl rfl) (by (repeat (first | exact rs_nil | (refine rs_cons ?_ ?_; (focus ((repeat (first | exact .here | apply Mem.there | apply Take.there)); first | done | fail))) | exact fun ρ hρ => hρ | (intro ρ hρ; repeat (first | exact hρ | refine List.mem_cons_of_mem _ ?_)))); first | done | fail) selZ ⟨σl, ⟨_, rfl, hOl⟩, rfl⟩
set_option maxHeartbeats 16000000 in
theorem peak_spec (ρ τ σ : PH) (pq pc : Option Addr) (kq kc : Nat) (qs : List Int) (cs : List Ct) (v : Value) (l : List Hd) (n : Int) (hq : IntsAt ρ (.slice pq qs.length kq) qs) (hc : CtAt τ (.slice pc cs.length kc) cs) (hcap : cs.length ≤ kc) (lq : qs.length ≤ 9223372036854775807) (lc : cs.length ≤ 9223372036854775807) (hv : HdAt σ v l) (hl : l.length ≤ 9223372036854775807) :
    Ans Try.prog (fv 15) [.agg #[.slice pq qs.length kq, .slice pc cs.length kc], v, int n] [ρ, τ, σ] (fun r => r = .tuple #[int (peakR qs cs l n).1, int (peakR qs cs l n).2]) := by
  have hv2 := hv
  obtain ⟨q, c, rfl, hr⟩ := hv.val encH_len
  refine spec_in (cap := []) Try.func15 rfl rfl Try.ntmps15 rfl (by (repeat (first | exact EnvA.nil EnvI.nil | apply EnvA.cons | apply EnvA.nil | exact EnvI.nil | apply EnvI.cons)); first | done | fail) (fun N β => ?_)
  refine jk_seq ?_
  refine jk_region ?_
  refine jk_op (l_boxS rfl) rfl rfl rfl ?_
  rintro _ _ ⟨b1, rfl, rfl⟩
  refine jk_freeze (ρ := sng b1 _) takeZ ?_
  have c1 : RdN (sng b1 (.cells #[.slice pq qs.length kq, .slice pc cs.length kc] 25 (0, 0))) b1 0 [.slice pq qs.length kq, .slice pc cs.length kc] := fun j u hu => by rw [rdc_sng, Nat.zero_add]; simpa using hu
  have c10 : rdc (sng b1 (.cells #[.slice pq qs.length kq, .slice pc cs.length kc] 25 (0, 0))) b1 0 = some (.slice pq qs.length kq) := by rw [rdc_sng]; rfl
  refine zq_assign ?_
  refine zq_assign ?_
  refine jk_nil ?_
  refine jk_seq ?_
  refine jk_seq ?_
  refine jk_region ?_
  refine zq_loadS ?_
  refine zq_move ?_
  refine jk_call (check28_spec ρ τ σ pq pc kq kc qs cs _ l hq hc hcap lq lc hv2 hl) rfl rfl rdZ rfl rfl ?_
  rintro _ rfl
  by_cases h0 : chkH qs cs l = 0
  rotate_left
  · have hR : peakR qs cs l n = (0, 1) := by unfold peakR; rw [if_pos h0]
    rw [hR]
    generalize chkH qs cs l = z at h0
    refine zq_ne ?_
    refine jk_nil ?_
    refine jk_if_t rfl ?_
    refine jk_seq ?_
    refine jk_region ?_
    refine zq_assign ?_
    refine zq_assign ?_
    refine jk_nil ?_
    exact jk_ret_any (res2 rfl rfl rfl) (by (repeat (first | exact rs_nil | (refine rs_cons ?_ ?_; (focus ((repeat (first | exact .here | apply Mem.there | apply Take.there)); first | done | fail))) | exact fun ρ hρ => hρ | (intro ρ hρ; repeat (first | exact hρ | refine List.mem_cons_of_mem _ ?_)))); first | done | fail) selZ ⟨rfl, rfl⟩
  rw [h0]
  obtain ⟨hok, hlen, hql⟩ := chkH_ok h0
  by_cases hn1 : n < 0
  · have hR : peakR qs cs l n = (0, 2) := by unfold peakR; rw [if_neg (fun h => h h0), if_pos (.inl hn1)]
    rw [hR]
    refine zq_neF ?_
    refine jk_nil ?_
    refine jk_if_f rfl ?_
    refine jk_skip ?_
    refine jk_seq ?_
    refine jk_seq ?_
    refine jk_region ?_
    refine zq_move ?_
    refine zq_lt ?_
    refine zq_move ?_
    refine jk_pass rfl rfl rfl ?_
    refine jk_pass rfl rfl rfl ?_
    refine jk_pass rfl rfl rfl ?_
    refine jk_pass rfl rfl rfl ?_
    refine jk_pass rfl rfl rfl ?_
    refine zq_pick_t ?_
    refine jk_nil ?_
    refine jk_if_t rfl ?_
    refine jk_seq ?_
    refine jk_region ?_
    refine zq_assign ?_
    refine zq_assign ?_
    refine jk_nil ?_
    exact jk_ret_any (res2 rfl rfl rfl) (by (repeat (first | exact rs_nil | (refine rs_cons ?_ ?_; (focus ((repeat (first | exact .here | apply Mem.there | apply Take.there)); first | done | fail))) | exact fun ρ hρ => hρ | (intro ρ hρ; repeat (first | exact hρ | refine List.mem_cons_of_mem _ ?_)))); first | done | fail) selZ ⟨rfl, rfl⟩
  by_cases hn2 : (qs.length : Int) ≤ n
  · have hR : peakR qs cs l n = (0, 2) := by unfold peakR; rw [if_neg (fun h => h h0), if_pos (.inr hn2)]
    rw [hR]
    refine zq_neF ?_
    refine jk_nil ?_
    refine jk_if_f rfl ?_
    refine jk_skip ?_
    refine jk_seq ?_
    refine jk_seq ?_
    refine jk_region ?_
    refine zq_move ?_
    refine zq_ltF ?_
    refine zq_move ?_
    refine zq_move ?_
    refine zq_fld0 ?_
    refine zq_load ?_
    refine zq_len ?_
    refine zq_ge ?_
    refine zq_pick_f ?_
    refine jk_nil ?_
    refine jk_if_t rfl ?_
    refine jk_seq ?_
    refine jk_region ?_
    refine zq_assign ?_
    refine zq_assign ?_
    refine jk_nil ?_
    exact jk_ret_any (res2 rfl rfl rfl) (by (repeat (first | exact rs_nil | (refine rs_cons ?_ ?_; (focus ((repeat (first | exact .here | apply Mem.there | apply Take.there)); first | done | fail))) | exact fun ρ hρ => hρ | (intro ρ hρ; repeat (first | exact hρ | refine List.mem_cons_of_mem _ ?_)))); first | done | fail) selZ ⟨rfl, rfl⟩
  have hR : peakR qs cs l n = (mostL (lvH l n), 0) := by unfold peakR; rw [if_neg (fun h => h h0), if_neg (by omega)]
  rw [hR]
  refine zq_neF ?_
  refine jk_nil ?_
  refine jk_if_f rfl ?_
  refine jk_skip ?_
  refine jk_seq ?_
  refine jk_seq ?_
  refine jk_region ?_
  refine zq_move ?_
  refine zq_ltF ?_
  refine zq_move ?_
  refine zq_move ?_
  refine zq_fld0 ?_
  refine zq_load ?_
  refine zq_len ?_
  refine zq_geF ?_
  refine zq_pick_f ?_
  refine jk_nil ?_
  refine jk_if_f rfl ?_
  refine jk_skip ?_
  refine jk_seq ?_
  refine jk_region ?_
  refine zq_move ?_
  refine zq_move ?_
  refine jk_callM (levels_spec σ _ l n qs.length hv2 hok (by omega)) rfl rfl rdZ rfl rfl ?_
  rintro ul σl hOl
  have hL : LvAt σl ul (lvH l n) := hOl.at
  have hll := lvH_len l n
  refine jk_call (most_spec σl ul (lvH l n) hL (by omega)) rfl rfl rdZ rfl rfl ?_
  rintro _ rfl
  refine zq_assign ?_
  refine zq_assign ?_
  refine jk_nil ?_
  exact jk_ret_any (res2 rfl rfl rfl) (by (repeat (first | exact rs_nil | (refine rs_cons ?_ ?_; (focus ((repeat (first | exact .here | apply Mem.there | apply Take.there)); first | done | fail))) | exact fun ρ hρ => hρ | (intro ρ hρ; repeat (first | exact hρ | refine List.mem_cons_of_mem _ ?_)))); first | done | fail) selZ ⟨rfl, rfl⟩
set_option maxHeartbeats 16000000 in
theorem refPeak_spec (ρ τ σ : PH) (pq pc : Option Addr) (kq kc : Nat) (qs : List Int) (cs : List Ct) (v : Value) (l : List Hd) (n : Int) (hq : IntsAt ρ (.slice pq qs.length kq) qs) (hc : CtAt τ (.slice pc cs.length kc) cs) (hcap : cs.length ≤ kc) (lq : qs.length ≤ 9223372036854775807) (lc : cs.length ≤ 9223372036854775807) (hv : HdAt σ v l) (hl : l.length ≤ 9223372036854775807) :
    Ans Try.prog (fv 16) [.agg #[.slice pq qs.length kq, .slice pc cs.length kc], v, int n] [ρ, τ, σ] (fun r => r = .tuple #[int (peakR qs cs l n).1, int (peakR qs cs l n).2]) := by
  have hv2 := hv
  obtain ⟨q, c, rfl, hr⟩ := hv.val encH_len
  refine spec_in (cap := []) Try.func16 rfl rfl Try.ntmps16 rfl (by (repeat (first | exact EnvA.nil EnvI.nil | apply EnvA.cons | apply EnvA.nil | exact EnvI.nil | apply EnvI.cons)); first | done | fail) (fun N β => ?_)
  refine jk_seq ?_
  refine jk_region ?_
  refine jk_op (l_boxS rfl) rfl rfl rfl ?_
  rintro _ _ ⟨b1, rfl, rfl⟩
  refine jk_freeze (ρ := sng b1 _) takeZ ?_
  have c1 : RdN (sng b1 (.cells #[.slice pq qs.length kq, .slice pc cs.length kc] 25 (0, 0))) b1 0 [.slice pq qs.length kq, .slice pc cs.length kc] := fun j u hu => by rw [rdc_sng, Nat.zero_add]; simpa using hu
  have c10 : rdc (sng b1 (.cells #[.slice pq qs.length kq, .slice pc cs.length kc] 25 (0, 0))) b1 0 = some (.slice pq qs.length kq) := by rw [rdc_sng]; rfl
  refine zq_assign ?_
  refine zq_assign ?_
  refine jk_nil ?_
  refine jk_seq ?_
  refine jk_seq ?_
  refine jk_region ?_
  refine zq_loadS ?_
  refine zq_move ?_
  refine jk_call (refCheck28_spec ρ τ σ pq pc kq kc qs cs _ l hq hc lq lc hv2 hl) rfl rfl rdZ rfl rfl ?_
  rintro _ rfl
  by_cases h0 : chkH qs cs l = 0
  rotate_left
  · have hR : peakR qs cs l n = (0, 1) := by unfold peakR; rw [if_pos h0]
    rw [hR]
    generalize chkH qs cs l = z at h0
    refine zq_ne ?_
    refine jk_nil ?_
    refine jk_if_t rfl ?_
    refine jk_seq ?_
    refine jk_region ?_
    refine zq_assign ?_
    refine zq_assign ?_
    refine jk_nil ?_
    exact jk_ret_any (res2 rfl rfl rfl) (by (repeat (first | exact rs_nil | (refine rs_cons ?_ ?_; (focus ((repeat (first | exact .here | apply Mem.there | apply Take.there)); first | done | fail))) | exact fun ρ hρ => hρ | (intro ρ hρ; repeat (first | exact hρ | refine List.mem_cons_of_mem _ ?_)))); first | done | fail) selZ ⟨rfl, rfl⟩
  rw [h0]
  obtain ⟨hok, hlen, hql⟩ := chkH_ok h0
  by_cases hn1 : n < 0
  · have hR : peakR qs cs l n = (0, 2) := by unfold peakR; rw [if_neg (fun h => h h0), if_pos (.inl hn1)]
    rw [hR]
    refine zq_neF ?_
    refine jk_nil ?_
    refine jk_if_f rfl ?_
    refine jk_skip ?_
    refine jk_seq ?_
    refine jk_seq ?_
    refine jk_region ?_
    refine zq_move ?_
    refine zq_lt ?_
    refine zq_move ?_
    refine jk_pass rfl rfl rfl ?_
    refine jk_pass rfl rfl rfl ?_
    refine jk_pass rfl rfl rfl ?_
    refine jk_pass rfl rfl rfl ?_
    refine jk_pass rfl rfl rfl ?_
    refine zq_pick_t ?_
    refine jk_nil ?_
    refine jk_if_t rfl ?_
    refine jk_seq ?_
    refine jk_region ?_
    refine zq_assign ?_
    refine zq_assign ?_
    refine jk_nil ?_
    exact jk_ret_any (res2 rfl rfl rfl) (by (repeat (first | exact rs_nil | (refine rs_cons ?_ ?_; (focus ((repeat (first | exact .here | apply Mem.there | apply Take.there)); first | done | fail))) | exact fun ρ hρ => hρ | (intro ρ hρ; repeat (first | exact hρ | refine List.mem_cons_of_mem _ ?_)))); first | done | fail) selZ ⟨rfl, rfl⟩
  by_cases hn2 : (qs.length : Int) ≤ n
  · have hR : peakR qs cs l n = (0, 2) := by unfold peakR; rw [if_neg (fun h => h h0), if_pos (.inr hn2)]
    rw [hR]
    refine zq_neF ?_
    refine jk_nil ?_
    refine jk_if_f rfl ?_
    refine jk_skip ?_
    refine jk_seq ?_
    refine jk_seq ?_
    refine jk_region ?_
    refine zq_move ?_
    refine zq_ltF ?_
    refine zq_move ?_
    refine zq_move ?_
    refine zq_fld0 ?_
    refine zq_load ?_
    refine zq_len ?_
    refine zq_ge ?_
    refine zq_pick_f ?_
    refine jk_nil ?_
    refine jk_if_t rfl ?_
    refine jk_seq ?_
    refine jk_region ?_
    refine zq_assign ?_
    refine zq_assign ?_
    refine jk_nil ?_
    exact jk_ret_any (res2 rfl rfl rfl) (by (repeat (first | exact rs_nil | (refine rs_cons ?_ ?_; (focus ((repeat (first | exact .here | apply Mem.there | apply Take.there)); first | done | fail))) | exact fun ρ hρ => hρ | (intro ρ hρ; repeat (first | exact hρ | refine List.mem_cons_of_mem _ ?_)))); first | done | fail) selZ ⟨rfl, rfl⟩
  have hR : peakR qs cs l n = (mostL (lvH l n), 0) := by unfold peakR; rw [if_neg (fun h => h h0), if_neg (by omega)]
  rw [hR]
  refine zq_neF ?_
  refine jk_nil ?_
  refine jk_if_f rfl ?_
  refine jk_skip ?_
  refine jk_seq ?_
  refine jk_seq ?_
  refine jk_region ?_
  refine zq_move ?_
  refine zq_ltF ?_
  refine zq_move ?_
  refine zq_move ?_
  refine zq_fld0 ?_
  refine zq_load ?_
  refine zq_len ?_
  refine zq_geF ?_
  refine zq_pick_f ?_
  refine jk_nil ?_
  refine jk_if_f rfl ?_
  refine jk_skip ?_
  refine jk_seq ?_
  refine jk_region ?_
  refine zq_assign ?_
  refine jk_nil ?_
  refine jk_seq ?_
  refine jk_region ?_
  refine zq_move ?_
  refine zq_move ?_
  refine jk_callM (refLevels_spec σ _ l n qs.length hv2 hok (by omega)) rfl rfl rdZ rfl rfl ?_
  rintro ul σl hOl
  have hL : LvAt σl ul (lvH l n) := hOl.at
  have hll := lvH_len l n
  generalize lvH l n = f at hOl hL hll
  obtain ⟨pl, cl, rfl, hrl⟩ := hL.val encV_len
  refine jk_freeze (ρ := σl) takeZ ?_
  refine zq_assign ?_
  refine jk_nil ?_
  refine jk_seq ?_
  refine jk_seq ?_
  refine jk_region ?_
  refine zq_assign ?_
  refine jk_nil ?_
  refine jk_block ?_
  refine jk_loop [9] (0 : Nat) (fun k => k ≤ f.length) (fun k => [(10, int k), (8, int (mostL (f.take k)))]) (fun _ => []) (fun k => f.length - k) pickZ (by omega) covZ selZ ?_
  intro k hk
  by_cases hlt : k < f.length
  · have hx := List.getElem?_eq_getElem hlt
    obtain ⟨b2, o2, rfl, _, _, g1⟩ := lvRow hrl hx
    have hm := mostL_take hx
    generalize f[k] = x at g1 hm
    refine jk_seq ?_
    refine jk_seq ?_
    refine jk_region ?_
    refine zq_move ?_
    refine zq_move ?_
    refine zq_len ?_
    refine zq_lt ?_
    refine jk_nil ?_
    refine jk_if_t rfl ?_
    refine jk_skip ?_
    refine jk_seq ?_
    refine jk_block ?_
    refine jk_region ?_
    refine zq_move ?_
    refine zq_move ?_
    refine zq_move ?_
    refine zq_idxN ?_
    refine zq_fld ?_
    refine zq_load ?_
    refine zq_max ?_
    refine zq_assign ?_
    refine jk_nil ?_
    refine jk_blk ?_
    refine jk_region ?_
    refine zq_move ?_
    refine zq_inc ?_
    refine zq_assign ?_
    refine jk_nil ?_
    refine jk_round (k + 1) (by omega) (by omega) ?_ selZ
    rw [hm]
    exact covZ
  · have hke : k = f.length := by omega
    subst hke
    rw [List.take_length]
    refine jk_seq ?_
    refine jk_seq ?_
    refine jk_region ?_
    refine zq_move ?_
    refine zq_move ?_
    refine zq_len ?_
    refine zq_ltF ?_
    refine jk_nil ?_
    refine jk_if_f rfl ?_
    refine jk_exit rfl ?_
    refine jk_seq ?_
    refine jk_region ?_
    refine zq_move ?_
    refine zq_assign ?_
    refine zq_assign ?_
    refine jk_nil ?_
    exact jk_ret_any (res2 rfl rfl rfl) (by (repeat (first | exact rs_nil | (refine rs_cons ?_ ?_; (focus ((repeat (first | exact .here | apply Mem.there | apply Take.there)); first | done | fail))) | exact fun ρ hρ => hρ | (intro ρ hρ; repeat (first | exact hρ | refine List.mem_cons_of_mem _ ?_)))); first | done | fail) selZ ⟨rfl, rfl⟩
end Go.Proofs.Ytnbihndlbopmeaa
/- Where a node can store more: two ways to say it. No program in sight. No conditions. -/
namespace Go.Step
def frA (Q s : Int) (st : Int × List (Int × Int)) (t v : Int) : Int × List (Int × Int) :=
  if Q - v < s then (-1, if 0 ≤ st.1 ∧ st.1 < t then st.2 ++ [(st.1, t)] else st.2) else (if st.1 < 0 then t else st.1, st.2)
def frL (Q s : Int) (st : Int × List (Int × Int)) (x : Lv) : Int × List (Int × Int) := if x.a < 1099511627776 then frA Q s st x.a x.v else st
def finA (st : Int × List (Int × Int)) : List (Int × Int) := if 0 ≤ st.1 ∧ st.1 < 1099511627776 then st.2 ++ [(st.1, 1099511627776)] else st.2
def freeP (Q s : Int) (f : List Lv) : List (Int × Int) := finA (f.foldl (frL Q s) (frA Q s (-1, []) 0 0))
def frB (Q s : Int) (st : (Int × Bool) × List (Int × Int)) (x : Lv) : (Int × Bool) × List (Int × Int) :=
  ((if s ≤ Q - x.v ∧ st.1.2 = false then x.a else st.1.1, decide (s ≤ Q - x.v)), if st.1.2 = true ∧ Q - x.v < s ∧ st.1.1 < x.a then st.2 ++ [(st.1.1, x.a)] else st.2)
def finB (st : (Int × Bool) × List (Int × Int)) : List (Int × Int) := if st.1.2 = true ∧ st.1.1 < 1099511627776 then st.2 ++ [(st.1.1, 1099511627776)] else st.2
def freeR (Q s : Int) (f : List Lv) : List (Int × Int) := finB (f.foldl (frB Q s) ((0, decide (s ≤ Q)), []))
structure RlF (A : Int × List (Int × Int)) (B : (Int × Bool) × List (Int × Int)) : Prop where
  o : A.2 = B.2
  p : 0 ≤ B.1.1
  f : A.1 = if B.1.2 = true then B.1.1 else -1
theorem RlF.step {Q s : Int} {A : Int × List (Int × Int)} {B : (Int × Bool) × List (Int × Int)} (h : RlF A B) {x : Lv} (h0 : 0 ≤ x.a) : RlF (frA Q s A x.a x.v) (frB Q s B x) := by
  obtain ⟨a1, a2⟩ := A
  obtain ⟨⟨b1, b2⟩, b3⟩ := B
  obtain ⟨h1, h2, h3⟩ := h
  dsimp only at h1 h2 h3
  subst h1
  unfold frA frB
  dsimp only
  by_cases hr : Q - x.v < s
  · rw [if_pos hr]
    have hd : decide (s ≤ Q - x.v) = false := decide_eq_false (by omega)
    cases b2 with
    | true =>
      simp only [if_true] at h3
      subst h3
      refine ⟨?_, ?_, ?_⟩
      · dsimp only
        by_cases hl : a1 < x.a
        · rw [if_pos ⟨h2, hl⟩, if_pos ⟨rfl, hr, hl⟩]
        · rw [if_neg (by omega), if_neg (by omega)]
      · dsimp only; rw [if_neg (by simp)]; exact h2
      · dsimp only; rw [hd]; rfl
    | false =>
      have h3' : a1 = -1 := by simpa using h3
      subst h3'
      refine ⟨?_, ?_, ?_⟩
      · dsimp only
        rw [if_neg (by omega), if_neg (by simp)]
      · dsimp only; rw [if_neg (by omega)]; exact h2
      · dsimp only; rw [hd]; rfl
  · rw [if_neg hr]
    have hd : decide (s ≤ Q - x.v) = true := decide_eq_true (by omega)
    cases b2 with
    | true =>
      simp only [if_true] at h3
      subst h3
      refine ⟨?_, ?_, ?_⟩
      · dsimp only; rw [if_neg (by omega)]
      · dsimp only; rw [if_neg (by simp)]; exact h2
      · dsimp only; rw [hd, if_pos rfl, if_neg (by omega), if_neg (by simp)]
    | false =>
      have h3' : a1 = -1 := by simpa using h3
      subst h3'
      refine ⟨?_, ?_, ?_⟩
      · dsimp only; rw [if_neg (by simp)]
      · dsimp only; rw [if_pos ⟨by omega, rfl⟩]; exact h0
      · dsimp only; rw [hd, if_pos rfl, if_pos (by omega), if_pos ⟨by omega, rfl⟩]
theorem RlF.fin {A : Int × List (Int × Int)} {B : (Int × Bool) × List (Int × Int)} (h : RlF A B) : finA A = finB B := by
  obtain ⟨a1, a2⟩ := A
  obtain ⟨⟨b1, b2⟩, b3⟩ := B
  obtain ⟨h1, h2, h3⟩ := h
  dsimp only at h1 h2 h3
  subst h1
  unfold finA finB
  dsimp only
  cases b2 with
  | true =>
    simp only [if_true] at h3
    subst h3
    by_cases hl : a1 < 1099511627776
    · rw [if_pos ⟨h2, hl⟩, if_pos ⟨rfl, hl⟩]
    · rw [if_neg (by omega), if_neg (by omega)]
  | false =>
    have h3' : a1 = -1 := by simpa using h3
    subst h3'
    rw [if_neg (by omega), if_neg (by simp)]
theorem RlF.last {Q s : Int} {A : Int × List (Int × Int)} {B : (Int × Bool) × List (Int × Int)} (h : RlF A B) {x : Lv} (hx : x.a = 1099511627776) : finA A = finB (frB Q s B x) := by
  obtain ⟨a1, a2⟩ := A
  obtain ⟨⟨b1, b2⟩, b3⟩ := B
  obtain ⟨h1, h2, h3⟩ := h
  dsimp only at h1 h2 h3
  subst h1
  unfold finA finB frB
  dsimp only
  rw [hx]
  by_cases hr : Q - x.v < s
  · have hd : decide (s ≤ Q - x.v) = false := decide_eq_false (by omega)
    rw [hd]
    cases b2 with
    | true =>
      simp only [if_true] at h3
      subst h3
      by_cases hl : a1 < 1099511627776
      · rw [if_pos ⟨h2, hl⟩, if_neg (by simp), if_pos ⟨rfl, hr, hl⟩]
      · rw [if_neg (by omega), if_neg (by simp), if_neg (by omega)]
    | false =>
      have h3' : a1 = -1 := by simpa using h3
      subst h3'
      rw [if_neg (by omega), if_neg (by simp), if_neg (by simp)]
  · have hd : decide (s ≤ Q - x.v) = true := decide_eq_true (by omega)
    rw [hd]
    cases b2 with
    | true =>
      simp only [if_true] at h3
      subst h3
      rw [if_neg (by simp : ¬ (s ≤ Q - x.v ∧ true = false)), if_neg (by omega : ¬ (true = true ∧ Q - x.v < s ∧ a1 < 1099511627776))]
      by_cases hl : a1 < 1099511627776
      · rw [if_pos ⟨h2, hl⟩, if_pos ⟨rfl, hl⟩]
      · rw [if_neg (by omega), if_neg (by omega)]
    | false =>
      have h3' : a1 = -1 := by simpa using h3
      subst h3'
      rw [if_pos (⟨by omega, rfl⟩ : s ≤ Q - x.v ∧ false = false), if_neg (by omega), if_neg (by omega), if_neg (by simp)]
theorem free_fold {Q s : Int} : ∀ {f : List Lv} {p : Int} {A : Int × List (Int × Int)} {B : (Int × Bool) × List (Int × Int)}, AscT p f → -1 ≤ p → RlF A B → finA (f.foldl (frL Q s) A) = finB (f.foldl (frB Q s) B)
  | [], _, _, _, _, _, h => h.fin
  | x :: f, p, A, B, hA, hp, h => by
    have hx := hA.gt x (by simp)
    rw [List.foldl_cons, List.foldl_cons]
    by_cases hl : x.a < 1099511627776
    · have e : frL Q s A x = frA Q s A x.a x.v := by unfold frL; rw [if_pos hl]
      rw [e]
      exact free_fold hA.2.2 (by omega) (h.step (by omega))
    · have e : frL Q s A x = A := by unfold frL; rw [if_neg hl]
      have hf : f = [] := by
        cases f with
        | nil => rfl
        | cons y f =>
          have h1 := hA.2.2.gt y (by simp)
          omega
      subst hf
      rw [e]
      exact h.last (by omega)
theorem free_same {Q s : Int} {f : List Lv} (hA : AscT (-1) f) : freeP Q s f = freeR Q s f := by
  unfold freeP freeR
  refine free_fold hA (by omega) ?_
  unfold frA
  by_cases h : Q - 0 < s
  · rw [if_pos h, decide_eq_false (by omega)]
    exact ⟨by dsimp only; rw [if_neg (by omega)], by dsimp only; omega, rfl⟩
  · rw [if_neg h, decide_eq_true (by omega)]
    exact ⟨rfl, by dsimp only; omega, by dsimp only; rw [if_pos (by omega), if_pos rfl]⟩
theorem frA_len (Q s : Int) (st : Int × List (Int × Int)) (t v : Int) : (frA Q s st t v).2.length ≤ st.2.length + 1 := by
  unfold frA
  split
  · dsimp only; split <;> simp
  · dsimp only; omega
theorem frL_len (Q s : Int) (st : Int × List (Int × Int)) (x : Lv) : (frL Q s st x).2.length ≤ st.2.length + 1 := by
  unfold frL
  split
  · exact frA_len ..
  · omega
def frS (Q s : Int) (f : List Lv) (k : Nat) : Int × List (Int × Int) := (f.take k).foldl (frL Q s) (frA Q s (-1, []) 0 0)
theorem frS_next (Q s : Int) {f : List Lv} {k : Nat} {x : Lv} (h : f[k]? = some x) : frS Q s f (k + 1) = frL Q s (frS Q s f k) x := by
  obtain ⟨hk, rfl⟩ := List.getElem?_eq_some_iff.1 h
  unfold frS
  rw [List.take_succ_eq_append_getElem hk, List.foldl_append]; rfl
theorem frS_len (Q s : Int) (f : List Lv) : ∀ k, (frS Q s f k).2.length ≤ k + 1
  | 0 => by
    have := frA_len Q s (-1, []) 0 0
    unfold frS; simpa using this
  | k + 1 => by
    have ih := frS_len Q s f k
    by_cases h : k < f.length
    · rw [frS_next Q s (List.getElem?_eq_getElem h)]
      have := frL_len Q s (frS Q s f k) f[k]
      omega
    · have e : frS Q s f (k + 1) = frS Q s f k := by unfold frS; rw [List.take_of_length_le (by omega), List.take_of_length_le (by omega)]
      rw [e]; omega
theorem comb_mem {F : Int → Int} : ∀ {ts : List Int} {last : Int} {x : Lv}, x ∈ comb F last ts → x.v = F x.a ∧ x.a ∈ ts
  | [], _, x, h => by simp [comb] at h
  | t :: ts, last, x, h => by
    simp only [comb] at h
    split at h
    · rcases List.mem_cons.1 h with rfl | h
      · exact ⟨rfl, by simp⟩
      · have := comb_mem h
        exact ⟨this.1, by simp [this.2]⟩
    · have := comb_mem h
      exact ⟨this.1, by simp [this.2]⟩
theorem lvH_ok {l : List Hd} {n : Int} {nq : Nat} (hok : ∀ h ∈ l, okHd nq h) (hl : l.length ≤ 600) : chkL (-1) 0 (lvH l n) = 0 := by
  unfold lvH
  obtain ⟨h1, h2⟩ := hts_sa l n
  refine comb_chk h1 (fun t ht => ?_)
  obtain ⟨h, hm, _, hx⟩ := mem_tmH.1 ((h2 t).1 ht)
  have hv := (hok h hm).2.1
  have hb := stored_bd (n := n) (t := t) hok
  unfold okV
  rcases hx with rfl | rfl <;> omega
theorem lvH_asc {l : List Hd} {n : Int} {nq : Nat} (hok : ∀ h ∈ l, okHd nq h) (hl : l.length ≤ 600) : AscT (-1) (lvH l n) := (chkL_asc _ _ _ (lvH_ok hok hl)).t
def frT (Q s : Int) (f : List Lv) (k : Nat) : (Int × Bool) × List (Int × Int) := (f.take k).foldl (frB Q s) ((0, decide (s ≤ Q)), [])
theorem frT_next (Q s : Int) {f : List Lv} {k : Nat} {x : Lv} (h : f[k]? = some x) : frT Q s f (k + 1) = frB Q s (frT Q s f k) x := by
  obtain ⟨hk, rfl⟩ := List.getElem?_eq_some_iff.1 h
  unfold frT
  rw [List.take_succ_eq_append_getElem hk, List.foldl_append]; rfl
theorem frT_len (Q s : Int) (f : List Lv) : ∀ k, (frT Q s f k).2.length ≤ k
  | 0 => by simp [frT]
  | k + 1 => by
    have ih := frT_len Q s f k
    by_cases h : k < f.length
    · rw [frT_next Q s (List.getElem?_eq_getElem h)]
      unfold frB
      dsimp only
      split
      · rw [List.length_append, List.length_singleton]; omega
      · omega
    · have e : frT Q s f (k + 1) = frT Q s f k := by unfold frT; rw [List.take_of_length_le (by omega), List.take_of_length_le (by omega)]
      rw [e]; omega
def freeRes (qs : List Int) (cs : List Ct) (l : List Hd) (n s : Int) : List (Int × Int) × Int :=
  if chkH qs cs l ≠ 0 then ([], 1) else if n < 0 ∨ (qs.length : Int) ≤ n ∨ s < 1 ∨ 65536 < s then ([], 2) else (freeP (qs.getD n.toNat 0) s (lvH l n), 0)
end Go.Step
/- Where a node can store more, of the program. -/
namespace Go.Proofs.Ytnbihndlbopmeaa
open Go.Eng Go.Step
set_option maxRecDepth 100000
set_option maxHeartbeats 4000000

def encS (x : Int × Int) : List Value := [int x.1, int x.2]
theorem encS_len (x : Int × Int) : (encS x).length = 2 := rfl
abbrev SpAt (ρ : PH) (v : Value) (l : List (Int × Int)) : Prop := SlE encS 2 ρ v l
def endO (fr t : Int) (out : List (Int × Int)) : List (Int × Int) := if 0 ≤ fr ∧ fr < t then out ++ [(fr, t)] else out
set_option maxHeartbeats 16000000 in
theorem end_spec (bf bo : Nat) (fr t : Int) (u : Value) (out : List (Int × Int)) (σ : PH) (hO : OwnS 43 2 u out.length (out.flatMap encS) σ) (hl : out.length ≤ 100000) :
    Eng.Spec Try.prog (.func (.func 38) #[] #[.pointer (some ⟨bf, 0, none⟩), .pointer (some ⟨bo, 0, none⟩)]) [int t] [] [sng bf (.cells #[int fr] 3 (0, 0)), sng bo (.cells #[u] 33 (0, 0)), σ]
      (fun r H' => r = .tuple #[] ∧ ∃ u' σ', OwnS 43 2 u' (endO fr t out).length ((endO fr t out).flatMap encS) σ' ∧ H' = [sng bf (.cells #[int (-1)] 3 (0, 0)), sng bo (.cells #[u'] 33 (0, 0)), σ']) := by
  obtain ⟨pu, cu, rfl⟩ := SlAt.cap hO.at
  refine spec_in (cap := [.pointer (some ⟨bf, 0, none⟩), .pointer (some ⟨bo, 0, none⟩)]) Try.func38 rfl rfl Try.ntmps38 rfl (by (repeat (first | exact EnvA.nil EnvI.nil | apply EnvA.cons | apply EnvA.nil | exact EnvI.nil | apply EnvI.cons)); first | done | fail) (fun N β => ?_)
  unfold endO
  by_cases h1 : 0 ≤ fr
  · by_cases h2 : fr < t
    · rw [if_pos ⟨h1, h2⟩]
      refine jk_seq ?_
      refine jk_seq ?_
      refine jk_region ?_
      refine zq_load ?_
      refine zq_ge ?_
      refine zq_move ?_
      refine zq_load ?_
      refine zq_move ?_
      refine zq_lt ?_
      refine zq_pick_t ?_
      refine jk_nil ?_
      refine jk_if_t rfl ?_
      refine jk_region ?_
      refine zq_load ?_
      refine zq_load ?_
      refine zq_move ?_
      refine zq_build ?_
      refine zl_buildSlice ?_; rintro _ _ ⟨b, rfl, rfl⟩
      refine jk_op (l_append (by_ := 16) (s := 2) (news := [int fr, int t]) rfl rfl rfl rfl rfl rfl rfl hO takeZ (cells_own memZ) rfl (by (repeat (first | exact (fun v hv => absurd hv List.not_mem_nil) | (refine List.forall_mem_cons.2 ⟨?_, ?_⟩; (focus (first | exact rfl | assumption))))); first | done | fail) (by omega) (by simp only [maxLen]; omega) (by omega)) rfl rfl rfl ?_
      rintro u1 _ ⟨σ1, hO1, rfl⟩
      have hu1 : u1.oneCell' = true := by obtain ⟨p, c, rfl⟩ := SlAt.cap hO1.at; rfl
      refine zs_storeL ?_; rintro _ _ ⟨rfl, rfl⟩
      refine jk_nil ?_
      refine jk_region ?_
      refine zs_storeL ?_; rintro _ _ ⟨rfl, rfl⟩
      refine jk_nil ?_
      refine jk_end_any (res0 rfl) (by (repeat (first | exact rs_nil | (refine rs_cons ?_ ?_; (focus ((repeat (first | exact .here | apply Mem.there | apply Take.there)); first | done | fail))) | exact fun ρ hρ => hρ | (intro ρ hρ; repeat (first | exact hρ | refine List.mem_cons_of_mem _ ?_)))); first | done | fail) selZ ⟨rfl, u1, σ1, ?_, rfl⟩
      rw [List.length_append, List.flatMap_append]
      exact hO1
    · rw [if_neg (by omega)]
      refine jk_seq ?_
      refine jk_seq ?_
      refine jk_region ?_
      refine zq_load ?_
      refine zq_ge ?_
      refine zq_move ?_
      refine zq_load ?_
      refine zq_move ?_
      refine zq_ltF ?_
      refine zq_pick_t ?_
      refine jk_nil ?_
      refine jk_if_f rfl ?_
      refine jk_skip ?_
      refine jk_region ?_
      refine zs_storeL ?_; rintro _ _ ⟨rfl, rfl⟩
      refine jk_nil ?_
      exact jk_end_any (res0 rfl) (by (repeat (first | exact rs_nil | (refine rs_cons ?_ ?_; (focus ((repeat (first | exact .here | apply Mem.there | apply Take.there)); first | done | fail))) | exact fun ρ hρ => hρ | (intro ρ hρ; repeat (first | exact hρ | refine List.mem_cons_of_mem _ ?_)))); first | done | fail) selZ ⟨rfl, _, _, hO, rfl⟩
  · rw [if_neg (by omega)]
    refine jk_seq ?_
    refine jk_seq ?_
    refine jk_region ?_
    refine zq_load ?_
    refine zq_geF ?_
    refine zq_move ?_
    refine jk_pass rfl rfl rfl ?_
    refine jk_pass rfl rfl rfl ?_
    refine jk_pass rfl rfl rfl ?_
    refine zq_pick_f ?_
    refine jk_nil ?_
    refine jk_if_f rfl ?_
    refine jk_skip ?_
    refine jk_region ?_
    refine zs_storeL ?_; rintro _ _ ⟨rfl, rfl⟩
    refine jk_nil ?_
    exact jk_end_any (res0 rfl) (by (repeat (first | exact rs_nil | (refine rs_cons ?_ ?_; (focus ((repeat (first | exact .here | apply Mem.there | apply Take.there)); first | done | fail))) | exact fun ρ hρ => hρ | (intro ρ hρ; repeat (first | exact hρ | refine List.mem_cons_of_mem _ ?_)))); first | done | fail) selZ ⟨rfl, _, _, hO, rfl⟩
def fnEnd (bf bo : Nat) : Value := .func (.func 38) #[] #[.pointer (some ⟨bf, 0, none⟩), .pointer (some ⟨bo, 0, none⟩)]
set_option maxHeartbeats 16000000 in
theorem at_spec (ρ : PH) (b4 b6 b7 b12 bf bo : Nat) (w : Value) (pq : Option Addr) (kq : Nat) (qs : List Int) (nn : Nat) (Q s fr t x : Int) (u : Value) (out : List (Int × Int)) (σ : PH) (hq : IntsAt ρ (.slice pq qs.length kq) qs) (hQ : qs[nn]? = some Q) (hQb : 0 ≤ Q ∧ Q ≤ 1073741824) (hx : 0 ≤ x ∧ x ≤ 1099511627776)
    (hO : OwnS 43 2 u out.length (out.flatMap encS) σ) (hl : out.length ≤ 100000) :
    Eng.Spec Try.prog (.func (.func 39) #[] #[.pointer (some ⟨b4, 0, none⟩), .pointer (some ⟨b6, 0, none⟩), .pointer (some ⟨b7, 0, none⟩), .pointer (some ⟨b12, 0, none⟩), .pointer (some ⟨bf, 0, none⟩)]) [int t, int x]
      [ρ, sng b4 (.cells #[.slice pq qs.length kq, w] 25 (0, 0)), sng b6 (.cells #[int nn] 3 (0, 0)), sng b7 (.cells #[int s] 3 (0, 0)), sng b12 (.cells #[fnEnd bf bo] 66 (0, 0))]
      [sng bf (.cells #[int fr] 3 (0, 0)), sng bo (.cells #[u] 33 (0, 0)), σ]
      (fun r H' => r = .tuple #[] ∧ ∃ u' σ', OwnS 43 2 u' (frA Q s (fr, out) t x).2.length ((frA Q s (fr, out) t x).2.flatMap encS) σ' ∧ H' = [sng bf (.cells #[int (frA Q s (fr, out) t x).1] 3 (0, 0)), sng bo (.cells #[u'] 33 (0, 0)), σ']) := by
  obtain ⟨_, _, e, hrq⟩ := hq.val Eng.encI_len
  simp only [Value.slice.injEq] at e
  obtain ⟨rfl, _, rfl⟩ := e
  have hnl := (List.getElem?_eq_some_iff.1 hQ).1
  obtain ⟨bq, oq, rfl, gq⟩ := hrq.int hQ
  refine spec_in (cap := [.pointer (some ⟨b4, 0, none⟩), .pointer (some ⟨b6, 0, none⟩), .pointer (some ⟨b7, 0, none⟩), .pointer (some ⟨b12, 0, none⟩), .pointer (some ⟨bf, 0, none⟩)]) Try.func39 rfl rfl Try.ntmps39 rfl (by (repeat (first | exact EnvA.nil EnvI.nil | apply EnvA.cons | apply EnvA.nil | exact EnvI.nil | apply EnvI.cons)); first | done | fail) (fun N β => ?_)
  have c4 : rdc (sng b4 (.cells #[.slice (some ⟨bq, oq, none⟩) qs.length kq, w] 25 (0, 0))) b4 0 = some (.slice (some ⟨bq, oq, none⟩) qs.length kq) := by rw [rdc_sng]; rfl
  have c6 : rdc (sng b6 (.cells #[int nn] 3 (0, 0))) b6 0 = some (int nn) := by rw [rdc_sng]; rfl
  have c7 : rdc (sng b7 (.cells #[int s] 3 (0, 0))) b7 0 = some (int s) := by rw [rdc_sng]; rfl
  have c12 : rdc (sng b12 (.cells #[fnEnd bf bo] 66 (0, 0))) b12 0 = some (fnEnd bf bo) := by rw [rdc_sng]; rfl
  unfold frA
  dsimp only
  refine jk_seq ?_
  refine jk_draw (.q 0 (.q 1 (.q 2 (.q 3 (.q 4 (.q 5 (.q 6 (.q 7 (.q 8 .nil))))))))) _ rfl (by kernel_rfl) Sel.refl ?_
  by_cases hc : Q - x < s
  · rw [if_pos hc]
    refine zd_fld0 ?_
    refine zd_load ?_
    refine zd_load ?_
    refine zd_idx1 ?_
    refine zd_load ?_
    refine zd_move ?_
    refine zd_sub ?_
    refine zd_load ?_
    refine zd_lt ?_
    refine dj_end ?_
    refine jk_if_t rfl ?_
    refine jk_region ?_
    refine zq_load ?_
    refine zq_move ?_
    refine jk_callH (end_spec bf bo fr t u out σ hO hl) rfl rfl (by (repeat (first | exact Takes.nil | (apply Takes.cons; exact (by (repeat (first | exact .here | apply Take.there)); first | done | fail)))); first | done | fail) (fun τ hτ => by simp at hτ) rfl rfl ?_
    rintro _ _ ⟨rfl, u1, σ1, hO1, rfl⟩
    refine jk_nil ?_
    exact jk_end_any (res0 rfl) (by (repeat (first | exact rs_nil | (refine rs_cons ?_ ?_; (focus ((repeat (first | exact .here | apply Mem.there | apply Take.there)); first | done | fail))) | exact fun ρ hρ => hρ | (intro ρ hρ; repeat (first | exact hρ | refine List.mem_cons_of_mem _ ?_)))); first | done | fail) selZ ⟨rfl, u1, σ1, hO1, rfl⟩
  · rw [if_neg hc]
    by_cases hf : fr < 0
    · rw [if_pos hf]
      refine zd_fld0 ?_
      refine zd_load ?_
      refine zd_load ?_
      refine zd_idx1 ?_
      refine zd_load ?_
      refine zd_move ?_
      refine zd_sub ?_
      refine zd_load ?_
      refine zd_ltF ?_
      refine dj_end ?_
      refine jk_if_f rfl ?_
      refine jk_seq ?_
      refine jk_region ?_
      refine zq_load ?_
      refine zq_lt ?_
      refine jk_nil ?_
      refine jk_if_t rfl ?_
      refine jk_region ?_
      refine zq_move ?_
      refine zs_storeL ?_; rintro _ _ ⟨rfl, rfl⟩
      refine jk_nil ?_
      exact jk_end_any (res0 rfl) (by (repeat (first | exact rs_nil | (refine rs_cons ?_ ?_; (focus ((repeat (first | exact .here | apply Mem.there | apply Take.there)); first | done | fail))) | exact fun ρ hρ => hρ | (intro ρ hρ; repeat (first | exact hρ | refine List.mem_cons_of_mem _ ?_)))); first | done | fail) selZ ⟨rfl, _, _, hO, rfl⟩
    · rw [if_neg hf]
      refine zd_fld0 ?_
      refine zd_load ?_
      refine zd_load ?_
      refine zd_idx1 ?_
      refine zd_load ?_
      refine zd_move ?_
      refine zd_sub ?_
      refine zd_load ?_
      refine zd_ltF ?_
      refine dj_end ?_
      refine jk_if_f rfl ?_
      refine jk_seq ?_
      refine jk_region ?_
      refine zq_load ?_
      refine zq_ltF ?_
      refine jk_nil ?_
      refine jk_if_f rfl ?_
      refine jk_skip ?_
      exact jk_end_any (res0 rfl) (by (repeat (first | exact rs_nil | (refine rs_cons ?_ ?_; (focus ((repeat (first | exact .here | apply Mem.there | apply Take.there)); first | done | fail))) | exact fun ρ hρ => hρ | (intro ρ hρ; repeat (first | exact hρ | refine List.mem_cons_of_mem _ ?_)))); first | done | fail) selZ ⟨rfl, _, _, hO, rfl⟩
end Go.Proofs.Ytnbihndlbopmeaa
/- Where a node can store more, of the program: Free. -/
namespace Go.Proofs.Ytnbihndlbopmeaa
open Go.Eng Go.Step
set_option maxRecDepth 100000
set_option maxHeartbeats 4000000

set_option maxHeartbeats 16000000 in
theorem free_spec (ρ τ σ : PH) (pq pc : Option Addr) (kq kc : Nat) (qs : List Int) (cs : List Ct) (v : Value) (l : List Hd) (n s : Int) (hq : IntsAt ρ (.slice pq qs.length kq) qs) (hc : CtAt τ (.slice pc cs.length kc) cs) (hcap : cs.length ≤ kc) (lq : qs.length ≤ 9223372036854775807) (lc : cs.length ≤ 9223372036854775807) (hv : HdAt σ v l) (hl : l.length ≤ 9223372036854775807) :
    Makes Try.prog (fv 13) [.agg #[.slice pq qs.length kq, .slice pc cs.length kc], v, int n, int s] [ρ, τ, σ] (fun r σ' => ∃ u, r = .tuple #[u, int (freeRes qs cs l n s).2] ∧ OwnS 43 2 u (freeRes qs cs l n s).1.length ((freeRes qs cs l n s).1.flatMap encS) σ') := by
  have hv2 := hv
  obtain ⟨q, c, rfl, hr⟩ := hv.val encH_len
  refine spec_in (cap := []) Try.func13 rfl rfl Try.ntmps13 rfl (by (repeat (first | exact EnvA.nil EnvI.nil | apply EnvA.cons | apply EnvA.nil | exact EnvI.nil | apply EnvI.cons)); first | done | fail) (fun N β => ?_)
  refine jk_emp ?_
  refine jk_seq ?_
  refine jk_region ?_
  refine jk_op (l_boxS rfl) rfl rfl rfl ?_
  rintro _ _ ⟨b4, rfl, rfl⟩
  refine jk_freeze (ρ := sng b4 _) takeZ ?_
  have c1 : RdN (sng b4 (.cells #[.slice pq qs.length kq, .slice pc cs.length kc] 25 (0, 0))) b4 0 [.slice pq qs.length kq, .slice pc cs.length kc] := fun j u hu => by rw [rdc_sng, Nat.zero_add]; simpa using hu
  have c10 : rdc (sng b4 (.cells #[.slice pq qs.length kq, .slice pc cs.length kc] 25 (0, 0))) b4 0 = some (.slice pq qs.length kq) := by rw [rdc_sng]; rfl
  refine jk_op (l_box1 rfl rfl) rfl rfl rfl ?_
  rintro _ _ ⟨b6, rfl, rfl⟩
  refine jk_freeze (ρ := sng b6 _) takeZ ?_
  have c6 : rdc (sng b6 (.cells #[int n] 3 (0, 0))) b6 0 = some (int n) := by rw [rdc_sng]; rfl
  refine jk_op (l_box1 rfl rfl) rfl rfl rfl ?_
  rintro _ _ ⟨b7, rfl, rfl⟩
  refine jk_freeze (ρ := sng b7 _) takeZ ?_
  have c7 : rdc (sng b7 (.cells #[int s] 3 (0, 0))) b7 0 = some (int s) := by rw [rdc_sng]; rfl
  refine zq_assign ?_
  refine zq_assign ?_
  refine jk_nil ?_
  refine jk_seq ?_
  refine jk_seq ?_
  refine jk_region ?_
  refine zq_loadS ?_
  refine zq_move ?_
  refine jk_call (check28_spec ρ τ σ pq pc kq kc qs cs _ l hq hc hcap lq lc hv2 hl) rfl rfl rdZ rfl rfl ?_
  rintro _ rfl
  by_cases h0 : chkH qs cs l = 0
  rotate_left
  · have hR : freeRes qs cs l n s = ([], 1) := by unfold freeRes; rw [if_pos h0]
    rw [hR]
    generalize chkH qs cs l = z at h0
    refine zq_ne ?_
    refine jk_nil ?_
    refine jk_if_t rfl ?_
    refine jk_seq ?_
    refine jk_region ?_
    refine zq_assign ?_
    refine zq_assign ?_
    refine jk_nil ?_
    exact jk_ret_any (res2 rfl rfl rfl) (by (repeat (first | exact rs_nil | (refine rs_cons ?_ ?_; (focus ((repeat (first | exact .here | apply Mem.there | apply Take.there)); first | done | fail))) | exact fun ρ hρ => hρ | (intro ρ hρ; repeat (first | exact hρ | refine List.mem_cons_of_mem _ ?_)))); first | done | fail) selZ ⟨emp, ⟨_, rfl, OwnS.nil _ _⟩, rfl⟩
  rw [h0]
  obtain ⟨hok, hlen, hql⟩ := chkH_ok h0
  by_cases hbad : n < 0 ∨ (qs.length : Int) ≤ n ∨ s < 1 ∨ 65536 < s
  · have hR : freeRes qs cs l n s = ([], 2) := by unfold freeRes; rw [if_neg (fun h => h h0), if_pos hbad]
    rw [hR]
    by_cases k1 : n < 0
    · refine zq_neF ?_
      refine jk_nil ?_
      refine jk_if_f rfl ?_
      refine jk_skip ?_
      refine jk_seq ?_
      refine jk_seq ?_
      refine jk_region ?_
      refine zq_load ?_
      refine zq_lt ?_
      refine zq_move ?_
      refine jk_pass rfl rfl rfl ?_
      refine jk_pass rfl rfl rfl ?_
      refine jk_pass rfl rfl rfl ?_
      refine jk_pass rfl rfl rfl ?_
      refine jk_pass rfl rfl rfl ?_
      refine zq_pick_t ?_
      refine zq_move ?_
      refine jk_pass rfl rfl rfl ?_
      refine jk_pass rfl rfl rfl ?_
      refine zq_pick_t ?_
      refine zq_move ?_
      refine jk_pass rfl rfl rfl ?_
      refine jk_pass rfl rfl rfl ?_
      refine zq_pick_t ?_
      refine jk_nil ?_
      refine jk_if_t rfl ?_
      refine jk_seq ?_
      refine jk_region ?_
      refine zq_assign ?_
      refine zq_assign ?_
      refine jk_nil ?_
      exact jk_ret_any (res2 rfl rfl rfl) (by (repeat (first | exact rs_nil | (refine rs_cons ?_ ?_; (focus ((repeat (first | exact .here | apply Mem.there | apply Take.there)); first | done | fail))) | exact fun ρ hρ => hρ | (intro ρ hρ; repeat (first | exact hρ | refine List.mem_cons_of_mem _ ?_)))); first | done | fail) selZ ⟨emp, ⟨_, rfl, OwnS.nil _ _⟩, rfl⟩
    by_cases k2 : (qs.length : Int) ≤ n
    · refine zq_neF ?_
      refine jk_nil ?_
      refine jk_if_f rfl ?_
      refine jk_skip ?_
      refine jk_seq ?_
      refine jk_seq ?_
      refine jk_region ?_
      refine zq_load ?_
      refine zq_ltF ?_
      refine zq_move ?_
      refine zq_load ?_
      refine zq_fld0 ?_
      refine zq_load ?_
      refine zq_len ?_
      refine zq_ge ?_
      refine zq_pick_f ?_
      refine zq_move ?_
      refine jk_pass rfl rfl rfl ?_
      refine jk_pass rfl rfl rfl ?_
      refine zq_pick_t ?_
      refine zq_move ?_
      refine jk_pass rfl rfl rfl ?_
      refine jk_pass rfl rfl rfl ?_
      refine zq_pick_t ?_
      refine jk_nil ?_
      refine jk_if_t rfl ?_
      refine jk_seq ?_
      refine jk_region ?_
      refine zq_assign ?_
      refine zq_assign ?_
      refine jk_nil ?_
      exact jk_ret_any (res2 rfl rfl rfl) (by (repeat (first | exact rs_nil | (refine rs_cons ?_ ?_; (focus ((repeat (first | exact .here | apply Mem.there | apply Take.there)); first | done | fail))) | exact fun ρ hρ => hρ | (intro ρ hρ; repeat (first | exact hρ | refine List.mem_cons_of_mem _ ?_)))); first | done | fail) selZ ⟨emp, ⟨_, rfl, OwnS.nil _ _⟩, rfl⟩
    by_cases k3 : s < 1
    · refine zq_neF ?_
      refine jk_nil ?_
      refine jk_if_f rfl ?_
      refine jk_skip ?_
      refine jk_seq ?_
      refine jk_seq ?_
      refine jk_region ?_
      refine zq_load ?_
      refine zq_ltF ?_
      refine zq_move ?_
      refine zq_load ?_
      refine zq_fld0 ?_
      refine zq_load ?_
      refine zq_len ?_
      refine zq_geF ?_
      refine zq_pick_f ?_
      refine zq_move ?_
      refine zq_load ?_
      refine zq_lt ?_
      refine zq_pick_f ?_
      refine zq_move ?_
      refine jk_pass rfl rfl rfl ?_
      refine jk_pass rfl rfl rfl ?_
      refine zq_pick_t ?_
      refine jk_nil ?_
      refine jk_if_t rfl ?_
      refine jk_seq ?_
      refine jk_region ?_
      refine zq_assign ?_
      refine zq_assign ?_
      refine jk_nil ?_
      exact jk_ret_any (res2 rfl rfl rfl) (by (repeat (first | exact rs_nil | (refine rs_cons ?_ ?_; (focus ((repeat (first | exact .here | apply Mem.there | apply Take.there)); first | done | fail))) | exact fun ρ hρ => hρ | (intro ρ hρ; repeat (first | exact hρ | refine List.mem_cons_of_mem _ ?_)))); first | done | fail) selZ ⟨emp, ⟨_, rfl, OwnS.nil _ _⟩, rfl⟩
    · refine zq_neF ?_
      refine jk_nil ?_
      refine jk_if_f rfl ?_
      refine jk_skip ?_
      refine jk_seq ?_
      refine jk_seq ?_
      refine jk_region ?_
      refine zq_load ?_
      refine zq_ltF ?_
      refine zq_move ?_
      refine zq_load ?_
      refine zq_fld0 ?_
      refine zq_load ?_
      refine zq_len ?_
      refine zq_geF ?_
      refine zq_pick_f ?_
      refine zq_move ?_
      refine zq_load ?_
      refine zq_ltF ?_
      refine zq_pick_f ?_
      refine zq_move ?_
      refine zq_load ?_
      refine zq_gt ?_
      refine zq_pick_f ?_
      refine jk_nil ?_
      refine jk_if_t rfl ?_
      refine jk_seq ?_
      refine jk_region ?_
      refine zq_assign ?_
      refine zq_assign ?_
      refine jk_nil ?_
      exact jk_ret_any (res2 rfl rfl rfl) (by (repeat (first | exact rs_nil | (refine rs_cons ?_ ?_; (focus ((repeat (first | exact .here | apply Mem.there | apply Take.there)); first | done | fail))) | exact fun ρ hρ => hρ | (intro ρ hρ; repeat (first | exact hρ | refine List.mem_cons_of_mem _ ?_)))); first | done | fail) selZ ⟨emp, ⟨_, rfl, OwnS.nil _ _⟩, rfl⟩
  have hR : freeRes qs cs l n s = (freeP (qs.getD n.toNat 0) s (lvH l n), 0) := by unfold freeRes; rw [if_neg (fun h => h h0), if_neg hbad]
  rw [hR]
  obtain ⟨nn, rfl⟩ := Int.eq_ofNat_of_zero_le (show 0 ≤ n by omega)
  have hQ := List.getElem?_eq_getElem (show nn < qs.length by omega)
  have hgd : qs.getD (nn : Int).toNat 0 = qs[nn] := by rw [Int.toNat_natCast, List.getD_eq_getElem?_getD, hQ]; rfl
  rw [hgd]
  have hQb := (chkPl_quo (chkH_pl h0)).2 nn _ hQ
  generalize qs[nn] = Q at hQ hQb
  refine zq_neF ?_
  refine jk_nil ?_
  refine jk_if_f rfl ?_
  refine jk_skip ?_
  refine jk_seq ?_
  refine jk_seq ?_
  refine jk_region ?_
  refine zq_load ?_
  refine zq_ltF ?_
  refine zq_move ?_
  refine zq_load ?_
  refine zq_fld0 ?_
  refine zq_load ?_
  refine zq_len ?_
  refine zq_geF ?_
  refine zq_pick_f ?_
  refine zq_move ?_
  refine zq_load ?_
  refine zq_ltF ?_
  refine zq_pick_f ?_
  refine zq_move ?_
  refine zq_load ?_
  refine zq_gtF ?_
  refine zq_pick_f ?_
  refine jk_nil ?_
  refine jk_if_f rfl ?_
  refine jk_skip ?_
  refine jk_seq ?_
  refine jk_region ?_
  refine zl_alloc1 ?_; rintro _ _ ⟨b, rfl, rfl⟩
  refine jk_nil ?_
  refine jk_seq ?_
  refine jk_region ?_
  refine zl_alloc1 ?_; rintro _ _ ⟨b, rfl, rfl⟩
  refine zs_storeL ?_; rintro _ _ ⟨rfl, rfl⟩
  refine jk_nil ?_
  refine jk_seq ?_
  refine jk_region ?_
  refine zq_makeFunc ?_
  refine zl_alloc1 ?_; rintro _ _ ⟨b, rfl, rfl⟩
  refine zs_storeL ?_; rintro _ _ ⟨rfl, rfl⟩
  refine jk_nil ?_
  refine jk_seq ?_
  refine jk_region ?_
  refine zq_makeFunc ?_
  refine zq_assign ?_
  refine jk_nil ?_
  refine jk_seq ?_
  refine jk_region ?_
  refine zq_move ?_
  revert b; intro b12
  revert b; intro bf
  revert b; intro bo
  refine jk_freeze (ρ := sng b12 _) takeZ ?_
  have c12 : rdc (sng b12 (.cells #[fnEnd bf bo] 66 (0, 0))) b12 0 = some (fnEnd bf bo) := by rw [rdc_sng]; rfl
  refine jk_callH (at_spec ρ b4 b6 b7 b12 bf bo _ pq kq qs nn Q s (-1) 0 0 _ [] emp hq hQ hQb (by omega) (OwnS.nil _ _) (by simp)) rfl rfl (by (repeat (first | exact Takes.nil | (apply Takes.cons; exact (by (repeat (first | exact .here | apply Take.there)); first | done | fail)))); first | done | fail) rdZ rfl rfl ?_
  rintro _ _ ⟨rfl, u1, σ1, hO1, rfl⟩
  refine jk_nil ?_
  refine jk_seq ?_
  refine jk_seq ?_
  refine jk_region ?_
  refine zq_move ?_
  refine zq_load ?_
  refine jk_callM (levels_spec σ _ l nn qs.length hv2 hok (by omega)) rfl rfl rdZ rfl rfl ?_
  rintro ul σl hOl
  have hL : LvAt σl ul (lvH l nn) := hOl.at
  have hll := lvH_len l nn
  have hlv : ∀ x ∈ lvH l nn, 0 ≤ x.v ∧ x.v ≤ 1099511627776 := fun x hx => by
    have h1 := (comb_mem hx).1
    have h2 := stored_bd (n := nn) (t := x.a) hok
    omega
  unfold freeP
  generalize lvH l nn = f at hOl hL hll hlv
  have hF : f.foldl (frL Q s) (frA Q s (-1, []) 0 0) = frS Q s f f.length := by unfold frS; rw [List.take_length]
  rw [hF]
  have hS0 : frA Q s (-1, []) 0 0 = frS Q s f 0 := rfl
  rw [hS0] at hO1
  rw [hS0]
  obtain ⟨pl, cl, rfl, hrl⟩ := hL.val encV_len
  refine jk_freeze (ρ := σl) takeZ ?_
  refine zq_len ?_
  refine zq_move ?_
  refine jk_nil ?_
  refine jk_block ?_
  refine jk_loop [10, 12, 13, 43, 44] (X := Nat × (Value × PH)) (0, (u1, σ1)) (fun x => x.1 ≤ f.length ∧ OwnS 43 2 x.2.1 (frS Q s f x.1).2.length ((frS Q s f x.1).2.flatMap encS) x.2.2) (fun x => [(45, int x.1)]) (fun x => [sng bf (.cells #[int (frS Q s f x.1).1] 3 (0, 0)), sng bo (.cells #[x.2.1] 33 (0, 0)), x.2.2]) (fun x => f.length - x.1) pickZ ⟨by dsimp only; omega, hO1⟩ covZ selZ ?_
  clear hO1
  rintro ⟨k, u, σk⟩ ⟨hk, hO⟩
  dsimp only at hk hO ⊢
  have hsl := frS_len Q s f k
  by_cases hlt : k < f.length
  · have hx := List.getElem?_eq_getElem hlt
    have hvx := hlv _ (List.getElem_mem hlt)
    obtain ⟨b2, o2, rfl, hrd, _, _⟩ := lvRow hrl hx
    have hn := frS_next Q s hx
    generalize f[k] = x at hrd hvx hn
    generalize hst : frS Q s f k = st at hO hsl hn
    obtain ⟨fr, out⟩ := st
    dsimp only at hO hsl ⊢
    by_cases hm : x.a < 1099511627776
    · have e : frL Q s (fr, out) x = frA Q s (fr, out) x.a x.v := by unfold frL; rw [if_pos hm]
      rw [e] at hn
      refine jk_seq ?_
      refine jk_region ?_
      refine zq_lt ?_
      refine jk_nil ?_
      refine jk_seq ?_
      refine jk_if_t rfl ?_
      refine jk_skip ?_
      refine jk_seq ?_
      refine jk_block ?_
      refine jk_seq ?_
      refine jk_region ?_
      refine zq_idxN ?_
      refine zq_loadS ?_
      refine zl_allocS ?_; rintro _ _ ⟨b, rfl, rfl⟩
      refine zs_storeS ?_; rintro _ _ ⟨rfl, rfl⟩
      refine jk_nil ?_
      refine jk_seq ?_
      refine jk_region ?_
      refine zq_fld0 ?_
      refine zq_load ?_
      refine zq_lt ?_
      refine jk_nil ?_
      refine jk_if_t rfl ?_
      refine jk_region ?_
      refine zq_move ?_
      refine zq_fld0 ?_
      refine zq_load ?_
      refine zq_fld0 ?_
      refine zq_load ?_
      refine jk_callH (at_spec ρ b4 b6 b7 b12 bf bo _ pq kq qs nn Q s fr x.a x.v u out σk hq hQ hQb hvx hO (by omega)) rfl rfl (by (repeat (first | exact Takes.nil | (apply Takes.cons; exact (by (repeat (first | exact .here | apply Take.there)); first | done | fail)))); first | done | fail) rdZ rfl rfl ?_
      rw [← hn]
      rintro _ _ ⟨rfl, u2, σ2, hO2, rfl⟩
      refine jk_nil ?_
      refine jk_blk ?_
      refine jk_region ?_
      refine zq_inc ?_
      refine zq_move ?_
      refine jk_nil ?_
      exact jk_round (k + 1, (u2, σ2)) ⟨by dsimp only; omega, hO2⟩ (by dsimp only; omega) covZ selZ
    · have e : frL Q s (fr, out) x = (fr, out) := by unfold frL; rw [if_neg hm]
      rw [e] at hn
      refine jk_seq ?_
      refine jk_region ?_
      refine zq_lt ?_
      refine jk_nil ?_
      refine jk_seq ?_
      refine jk_if_t rfl ?_
      refine jk_skip ?_
      refine jk_seq ?_
      refine jk_block ?_
      refine jk_seq ?_
      refine jk_region ?_
      refine zq_idxN ?_
      refine zq_loadS ?_
      refine zl_allocS ?_; rintro _ _ ⟨b, rfl, rfl⟩
      refine zs_storeS ?_; rintro _ _ ⟨rfl, rfl⟩
      refine jk_nil ?_
      refine jk_seq ?_
      refine jk_region ?_
      refine zq_fld0 ?_
      refine zq_load ?_
      refine zq_ltF ?_
      refine jk_nil ?_
      refine jk_if_f rfl ?_
      refine jk_skip ?_
      refine jk_blk ?_
      refine jk_region ?_
      refine zq_inc ?_
      refine zq_move ?_
      refine jk_nil ?_
      refine jk_round (k + 1, (u, σk)) ⟨by dsimp only; omega, by dsimp only; rw [hn]; exact hO⟩ (by dsimp only; omega) covZ ?_
      dsimp only
      rw [hn]
      exact selZ
  · have hke : k = f.length := by omega
    subst hke
    generalize frS Q s f f.length = st at hO hsl
    obtain ⟨fr, out⟩ := st
    dsimp only at hO hsl ⊢
    refine jk_seq ?_
    refine jk_region ?_
    refine zq_ltF ?_
    refine jk_nil ?_
    refine jk_seq ?_
    refine jk_if_f rfl ?_
    refine jk_exit rfl ?_
    refine jk_seq ?_
    refine jk_region ?_
    refine zq_load ?_
    refine jk_callH (end_spec bf bo fr 1099511627776 u out σk hO (by omega)) rfl rfl (by (repeat (first | exact Takes.nil | (apply Takes.cons; exact (by (repeat (first | exact .here | apply Take.there)); first | done | fail)))); first | done | fail) (fun τ hτ => by simp at hτ) rfl rfl ?_
    rintro _ _ ⟨rfl, u2, σ2, hO2, rfl⟩
    refine jk_nil ?_
    refine jk_seq ?_
    refine jk_region ?_
    refine zq_load ?_
    refine zq_assign ?_
    refine zq_assign ?_
    refine jk_nil ?_
    exact jk_ret_any (res2 rfl rfl rfl) (by (repeat (first | exact rs_nil | (refine rs_cons ?_ ?_; (focus ((repeat (first | exact .here | apply Mem.there | apply Take.there)); first | done | fail))) | exact fun ρ hρ => hρ | (intro ρ hρ; repeat (first | exact hρ | refine List.mem_cons_of_mem _ ?_)))); first | done | fail) selZ ⟨σ2, ⟨u2, rfl, hO2⟩, rfl⟩
end Go.Proofs.Ytnbihndlbopmeaa
/- Where a node can store more, of the reference. -/
namespace Go.Proofs.Ytnbihndlbopmeaa
open Go.Eng Go.Step
set_option maxRecDepth 100000
set_option maxHeartbeats 4000000

set_option maxHeartbeats 16000000 in
theorem freeOf_spec (ρ σ : PH) (pq pc : Option Addr) (kq nc kc : Nat) (qs : List Int) (v : Value) (l : List Hd) (nn : Nat) (Q s : Int) (hq : IntsAt ρ (.slice pq qs.length kq) qs) (hv : HdAt σ v l) (hok : ∀ h ∈ l, okHd qs.length h) (hl : l.length ≤ 600) (hQ : qs[nn]? = some Q) (hQb : 0 ≤ Q ∧ Q ≤ 1073741824) :
    Makes Try.prog (fv 40) [.agg #[.slice pq qs.length kq, .slice pc nc kc], v, int nn, int s] [ρ, σ] (fun r σ' => OwnS 43 2 r (freeR Q s (lvH l nn)).length ((freeR Q s (lvH l nn)).flatMap encS) σ') := by
  have hv2 := hv
  obtain ⟨q, c, rfl, hr⟩ := hv.val encH_len
  obtain ⟨_, _, e, hrq⟩ := hq.val Eng.encI_len
  simp only [Value.slice.injEq] at e
  obtain ⟨rfl, _, rfl⟩ := e
  have hnl := (List.getElem?_eq_some_iff.1 hQ).1
  obtain ⟨bq, oq, rfl, gq⟩ := hrq.int hQ
  refine spec_in (cap := []) Try.func40 rfl rfl Try.ntmps40 rfl (by (repeat (first | exact EnvA.nil EnvI.nil | apply EnvA.cons | apply EnvA.nil | exact EnvI.nil | apply EnvI.cons)); first | done | fail) (fun N β => ?_)
  refine jk_seq ?_
  refine jk_region ?_
  refine jk_op (l_boxS rfl) rfl rfl rfl ?_
  rintro _ _ ⟨b4, rfl, rfl⟩
  refine jk_freeze (ρ := sng b4 _) takeZ ?_
  have c10 : rdc (sng b4 (.cells #[.slice (some ⟨bq, oq, none⟩) qs.length kq, .slice pc nc kc] 25 (0, 0))) b4 0 = some (.slice (some ⟨bq, oq, none⟩) qs.length kq) := by rw [rdc_sng]; rfl
  refine zq_assign ?_
  refine jk_nil ?_
  refine jk_seq ?_
  refine jk_region ?_
  refine zl_buildSlice ?_; rintro _ _ ⟨b, rfl, rfl⟩
  refine zq_assign ?_
  refine jk_nil ?_
  refine jk_seq ?_
  refine jk_region ?_
  refine zq_assign ?_
  refine zq_assign ?_
  refine jk_nil ?_
  refine jk_seq ?_
  refine jk_region ?_
  refine zq_move ?_
  refine zq_fld0 ?_
  refine zq_load ?_
  refine zq_move ?_
  refine zq_idx1 ?_
  refine zq_load ?_
  refine jk_q (q_cmp rfl rfl (cmp_le _ _)) rfl rfl rfl ?_
  refine zq_assign ?_
  refine jk_nil ?_
  refine jk_seq ?_
  refine jk_region ?_
  refine zq_move ?_
  refine zq_move ?_
  revert b; intro bo
  refine jk_callM (refLevels_spec σ _ l nn qs.length hv2 hok hl) rfl rfl rdZ rfl rfl ?_
  rintro ul σl hOl
  have hL : LvAt σl ul (lvH l nn) := hOl.at
  have hll := lvH_len l nn
  have hlv : ∀ x ∈ lvH l nn, 0 ≤ x.v ∧ x.v ≤ 1099511627776 := fun x hx => by
    have h1 := (comb_mem hx).1
    have h2 := stored_bd (n := nn) (t := x.a) hok
    omega
  unfold freeR
  generalize lvH l nn = f at hOl hL hll hlv
  have hF : f.foldl (frB Q s) ((0, decide (s ≤ Q)), []) = frT Q s f f.length := by unfold frT; rw [List.take_length]
  rw [hF]
  obtain ⟨pl, cl, rfl, hrl⟩ := hL.val encV_len
  refine jk_freeze (ρ := σl) takeZ ?_
  refine zq_assign ?_
  refine jk_nil ?_
  refine jk_seq ?_
  refine jk_seq ?_
  refine jk_region ?_
  refine zq_assign ?_
  refine jk_nil ?_
  refine jk_block ?_
  refine jk_loop [2, 3, 4, 13] (X := (Nat × Int) × (Value × PH)) ((0, 0), (.slice (some ⟨bo, 0, none⟩) 0 0, sng bo (.cells #[] 43 (0, 0)))) (fun x => x.1.1 ≤ f.length ∧ OwnS 43 2 x.2.1 (frT Q s f x.1.1).2.length ((frT Q s f x.1.1).2.flatMap encS) x.2.2) (fun x => [(14, int x.1.1), (11, int x.1.2), (10, int (frT Q s f x.1.1).1.1), (12, .bool (frT Q s f x.1.1).1.2), (9, x.2.1)]) (fun x => [x.2.2]) (fun x => f.length - x.1.1) pickZ ⟨by dsimp only; omega, OwnS.empty⟩ covZ selZ ?_
  rintro ⟨⟨k, la⟩, u, σk⟩ ⟨hk, hO⟩
  dsimp only at hk hO ⊢
  have hsl := frT_len Q s f k
  by_cases hlt : k < f.length
  · have hx := List.getElem?_eq_getElem hlt
    have hvx := hlv _ (List.getElem_mem hlt)
    obtain ⟨b2, o2, rfl, _, g0, g1⟩ := lvRow hrl hx
    have hn := frT_next Q s hx
    generalize f[k] = x at g0 g1 hvx hn
    generalize hst : frT Q s f k = st at hO hsl hn
    obtain ⟨⟨fr, op⟩, out⟩ := st
    obtain ⟨pu, cu, rfl⟩ := SlAt.cap hO.at
    unfold frB at hn
    dsimp only at hO hsl hn ⊢
    refine jk_seq ?_
    refine jk_seq ?_
    refine jk_region ?_
    refine zq_move ?_
    refine zq_move ?_
    refine zq_len ?_
    refine zq_lt ?_
    refine jk_nil ?_
    refine jk_if_t rfl ?_
    refine jk_skip ?_
    refine jk_seq ?_
    refine jk_block ?_
    refine jk_seq ?_
    refine jk_region ?_
    refine zq_move ?_
    refine zq_move ?_
    refine zq_idxN ?_
    refine zq_fldZ ?_
    refine zq_load ?_
    refine zq_assign ?_
    refine jk_nil ?_
    refine jk_seq ?_
    refine jk_draw (.q 0 (.q 1 (.q 2 (.q 3 (.q 4 (.q 5 (.q 6 (.q 7 (.q 8 (.q 9 (.q 10 (.q 11 (.q 12 (.q 13 .nil)))))))))))))) _ rfl (by kernel_rfl) Sel.refl ?_
    by_cases hroom : s ≤ Q - x.v
    · rw [decide_eq_true hroom, if_neg (by omega : ¬ (op = true ∧ Q - x.v < s ∧ fr < x.a))] at hn
      cases op with
      | true =>
        rw [if_neg (by simp)] at hn
        refine zd_fld0 ?_
        refine zd_load ?_
        refine zd_move ?_
        refine zd_idx1 ?_
        refine zd_load ?_
        refine zd_move ?_
        refine zd_move ?_
        refine zd_idxN ?_
        refine zd_fld ?_
        refine zd_load ?_
        refine zd_sub ?_
        refine zd_move ?_
        refine zd_ge ?_
        refine zd_assign ?_
        refine dj_end ?_
        refine jk_seq ?_
        refine jk_seq ?_
        refine jk_region ?_
        refine zq_move ?_
        refine zq_move ?_
        refine zq_move ?_
        refine zq_not ?_
        refine zq_pick_t ?_
        refine zq_move ?_
        refine jk_pass rfl rfl rfl ?_
        refine jk_pass rfl rfl rfl ?_
        refine jk_pass rfl rfl rfl ?_
        refine zq_pick_f ?_
        refine jk_nil ?_
        refine jk_if_f rfl ?_
        refine jk_skip ?_
        refine jk_seq ?_
        refine jk_seq ?_
        refine jk_region ?_
        refine zq_move ?_
        refine zq_move ?_
        refine zq_move ?_
        refine zq_not ?_
        refine zq_pick_t ?_
        refine jk_nil ?_
        refine jk_if_f rfl ?_
        refine jk_skip ?_
        refine jk_region ?_
        refine zq_move ?_
        refine zq_assign ?_
        refine jk_nil ?_
        refine jk_blk ?_
        refine jk_region ?_
        refine zq_move ?_
        refine zq_inc ?_
        refine zq_assign ?_
        refine jk_nil ?_
        refine jk_round ((k + 1, x.a), (_, σk)) ⟨by dsimp only; omega, by dsimp only; rw [hn]; exact hO⟩ (by dsimp only; omega) ?_ selZ
        dsimp only
        rw [hn]
        exact covZ
      | false =>
        rw [if_pos ⟨hroom, rfl⟩] at hn
        refine zd_fld0 ?_
        refine zd_load ?_
        refine zd_move ?_
        refine zd_idx1 ?_
        refine zd_load ?_
        refine zd_move ?_
        refine zd_move ?_
        refine zd_idxN ?_
        refine zd_fld ?_
        refine zd_load ?_
        refine zd_sub ?_
        refine zd_move ?_
        refine zd_ge ?_
        refine zd_assign ?_
        refine dj_end ?_
        refine jk_seq ?_
        refine jk_seq ?_
        refine jk_region ?_
        refine zq_move ?_
        refine zq_move ?_
        refine jk_pass rfl rfl rfl ?_
        refine jk_pass rfl rfl rfl ?_
        refine zq_pick_f ?_
        refine zq_move ?_
        refine jk_pass rfl rfl rfl ?_
        refine jk_pass rfl rfl rfl ?_
        refine jk_pass rfl rfl rfl ?_
        refine zq_pick_f ?_
        refine jk_nil ?_
        refine jk_if_f rfl ?_
        refine jk_skip ?_
        refine jk_seq ?_
        refine jk_seq ?_
        refine jk_region ?_
        refine zq_move ?_
        refine zq_move ?_
        refine zq_move ?_
        refine zq_not ?_
        refine zq_pick_t ?_
        refine jk_nil ?_
        refine jk_if_t rfl ?_
        refine jk_region ?_
        refine zq_move ?_
        refine zq_assign ?_
        refine jk_nil ?_
        refine jk_region ?_
        refine zq_move ?_
        refine zq_assign ?_
        refine jk_nil ?_
        refine jk_blk ?_
        refine jk_region ?_
        refine zq_move ?_
        refine zq_inc ?_
        refine zq_assign ?_
        refine jk_nil ?_
        refine jk_round ((k + 1, x.a), (_, σk)) ⟨by dsimp only; omega, by dsimp only; rw [hn]; exact hO⟩ (by dsimp only; omega) ?_ selZ
        dsimp only
        rw [hn]
        exact covZ
    · rw [decide_eq_false hroom, if_neg (by omega : ¬ (s ≤ Q - x.v ∧ op = false))] at hn
      cases op with
      | true =>
        by_cases hfx : fr < x.a
        · rw [if_pos ⟨rfl, by omega, hfx⟩] at hn
          refine zd_fld0 ?_
          refine zd_load ?_
          refine zd_move ?_
          refine zd_idx1 ?_
          refine zd_load ?_
          refine zd_move ?_
          refine zd_move ?_
          refine zd_idxN ?_
          refine zd_fld ?_
          refine zd_load ?_
          refine zd_sub ?_
          refine zd_move ?_
          refine zd_geF ?_
          refine zd_assign ?_
          refine dj_end ?_
          refine jk_seq ?_
          refine jk_seq ?_
          refine jk_region ?_
          refine zq_move ?_
          refine zq_move ?_
          refine zq_move ?_
          refine zq_not ?_
          refine zq_pick_t ?_
          refine zq_move ?_
          refine zq_move ?_
          refine zq_move ?_
          refine zq_lt ?_
          refine zq_pick_t ?_
          refine jk_nil ?_
          refine jk_if_t rfl ?_
          refine jk_region ?_
          refine zq_move ?_
          refine zq_move ?_
          refine zq_move ?_
          refine zq_build ?_
          refine zl_buildSlice ?_; rintro _ _ ⟨b, rfl, rfl⟩
          refine jk_op (l_append (by_ := 16) (s := 2) (news := [int fr, int x.a]) rfl rfl rfl rfl rfl rfl rfl hO takeZ (cells_own memZ) rfl (by (repeat (first | exact (fun v hv => absurd hv List.not_mem_nil) | (refine List.forall_mem_cons.2 ⟨?_, ?_⟩; (focus (first | exact rfl | assumption))))); first | done | fail) (by omega) (by simp only [maxLen]; omega) (by omega)) rfl rfl rfl ?_
          rintro u1 _ ⟨σ1, hO1, rfl⟩
          refine zq_assign ?_
          refine jk_nil ?_
          refine jk_seq ?_
          refine jk_seq ?_
          refine jk_region ?_
          refine zq_move ?_
          refine zq_move ?_
          refine jk_pass rfl rfl rfl ?_
          refine jk_pass rfl rfl rfl ?_
          refine zq_pick_f ?_
          refine jk_nil ?_
          refine jk_if_f rfl ?_
          refine jk_skip ?_
          refine jk_region ?_
          refine zq_move ?_
          refine zq_assign ?_
          refine jk_nil ?_
          refine jk_blk ?_
          refine jk_region ?_
          refine zq_move ?_
          refine zq_inc ?_
          refine zq_assign ?_
          refine jk_nil ?_
          refine jk_round ((k + 1, x.a), (u1, σ1)) ⟨by dsimp only; omega, ?_⟩ (by dsimp only; omega) ?_ selZ
          · dsimp only
            rw [hn]
            dsimp only
            rw [List.length_append, List.flatMap_append]
            exact hO1
          · dsimp only
            rw [hn]
            exact covZ
        · rw [if_neg (by omega)] at hn
          refine zd_fld0 ?_
          refine zd_load ?_
          refine zd_move ?_
          refine zd_idx1 ?_
          refine zd_load ?_
          refine zd_move ?_
          refine zd_move ?_
          refine zd_idxN ?_
          refine zd_fld ?_
          refine zd_load ?_
          refine zd_sub ?_
          refine zd_move ?_
          refine zd_geF ?_
          refine zd_assign ?_
          refine dj_end ?_
          refine jk_seq ?_
          refine jk_seq ?_
          refine jk_region ?_
          refine zq_move ?_
          refine zq_move ?_
          refine zq_move ?_
          refine zq_not ?_
          refine zq_pick_t ?_
          refine zq_move ?_
          refine zq_move ?_
          refine zq_move ?_
          refine zq_ltF ?_
          refine zq_pick_t ?_
          refine jk_nil ?_
          refine jk_if_f rfl ?_
          refine jk_skip ?_
          refine jk_seq ?_
          refine jk_seq ?_
          refine jk_region ?_
          refine zq_move ?_
          refine zq_move ?_
          refine jk_pass rfl rfl rfl ?_
          refine jk_pass rfl rfl rfl ?_
          refine zq_pick_f ?_
          refine jk_nil ?_
          refine jk_if_f rfl ?_
          refine jk_skip ?_
          refine jk_region ?_
          refine zq_move ?_
          refine zq_assign ?_
          refine jk_nil ?_
          refine jk_blk ?_
          refine jk_region ?_
          refine zq_move ?_
          refine zq_inc ?_
          refine zq_assign ?_
          refine jk_nil ?_
          refine jk_round ((k + 1, x.a), (_, σk)) ⟨by dsimp only; omega, by dsimp only; rw [hn]; exact hO⟩ (by dsimp only; omega) ?_ selZ
          dsimp only
          rw [hn]
          exact covZ
      | false =>
        rw [if_neg (by simp)] at hn
        refine zd_fld0 ?_
        refine zd_load ?_
        refine zd_move ?_
        refine zd_idx1 ?_
        refine zd_load ?_
        refine zd_move ?_
        refine zd_move ?_
        refine zd_idxN ?_
        refine zd_fld ?_
        refine zd_load ?_
        refine zd_sub ?_
        refine zd_move ?_
        refine zd_geF ?_
        refine zd_assign ?_
        refine dj_end ?_
        refine jk_seq ?_
        refine jk_seq ?_
        refine jk_region ?_
        refine zq_move ?_
        refine zq_move ?_
        refine jk_pass rfl rfl rfl ?_
        refine jk_pass rfl rfl rfl ?_
        refine zq_pick_f ?_
        refine zq_move ?_
        refine jk_pass rfl rfl rfl ?_
        refine jk_pass rfl rfl rfl ?_
        refine jk_pass rfl rfl rfl ?_
        refine zq_pick_f ?_
        refine jk_nil ?_
        refine jk_if_f rfl ?_
        refine jk_skip ?_
        refine jk_seq ?_
        refine jk_seq ?_
        refine jk_region ?_
        refine zq_move ?_
        refine zq_move ?_
        refine jk_pass rfl rfl rfl ?_
        refine jk_pass rfl rfl rfl ?_
        refine zq_pick_f ?_
        refine jk_nil ?_
        refine jk_if_f rfl ?_
        refine jk_skip ?_
        refine jk_region ?_
        refine zq_move ?_
        refine zq_assign ?_
        refine jk_nil ?_
        refine jk_blk ?_
        refine jk_region ?_
        refine zq_move ?_
        refine zq_inc ?_
        refine zq_assign ?_
        refine jk_nil ?_
        refine jk_round ((k + 1, x.a), (_, σk)) ⟨by dsimp only; omega, by dsimp only; rw [hn]; exact hO⟩ (by dsimp only; omega) ?_ selZ
        dsimp only
        rw [hn]
        exact covZ
  · have hke : k = f.length := by omega
    subst hke
    generalize frT Q s f f.length = st at hO hsl
    obtain ⟨⟨fr, op⟩, out⟩ := st
    obtain ⟨pu, cu, rfl⟩ := SlAt.cap hO.at
    unfold finB
    dsimp only at hO hsl ⊢
    cases op with
    | true =>
      by_cases hfx : fr < 1099511627776
      · rw [if_pos ⟨rfl, hfx⟩]
        refine jk_seq ?_
        refine jk_seq ?_
        refine jk_region ?_
        refine zq_move ?_
        refine zq_move ?_
        refine zq_len ?_
        refine zq_ltF ?_
        refine jk_nil ?_
        refine jk_if_f rfl ?_
        refine jk_exit rfl ?_
        refine jk_seq ?_
        refine jk_seq ?_
        refine jk_region ?_
        refine zq_move ?_
        refine zq_move ?_
        refine zq_move ?_
        refine zq_lt ?_
        refine zq_pick_t ?_
        refine jk_nil ?_
        refine jk_if_t rfl ?_
        refine jk_region ?_
        refine zq_move ?_
        refine zq_move ?_
        refine zq_build ?_
        refine zl_buildSlice ?_; rintro _ _ ⟨b, rfl, rfl⟩
        refine jk_op (l_append (by_ := 16) (s := 2) (news := [int fr, int 1099511627776]) rfl rfl rfl rfl rfl rfl rfl hO takeZ (cells_own memZ) rfl (by (repeat (first | exact (fun v hv => absurd hv List.not_mem_nil) | (refine List.forall_mem_cons.2 ⟨?_, ?_⟩; (focus (first | exact rfl | assumption))))); first | done | fail) (by omega) (by simp only [maxLen]; omega) (by omega)) rfl rfl rfl ?_
        rintro u1 _ ⟨σ1, hO1, rfl⟩
        refine zq_assign ?_
        refine jk_nil ?_
        refine jk_seq ?_
        refine jk_region ?_
        refine zq_move ?_
        refine zq_assign ?_
        refine jk_nil ?_
        refine jk_ret_any (res1 rfl rfl) (by (repeat (first | exact rs_nil | (refine rs_cons ?_ ?_; (focus ((repeat (first | exact .here | apply Mem.there | apply Take.there)); first | done | fail))) | exact fun ρ hρ => hρ | (intro ρ hρ; repeat (first | exact hρ | refine List.mem_cons_of_mem _ ?_)))); first | done | fail) selZ ⟨σ1, ?_, rfl⟩
        rw [List.length_append, List.flatMap_append]
        exact hO1
      · rw [if_neg (by omega)]
        refine jk_seq ?_
        refine jk_seq ?_
        refine jk_region ?_
        refine zq_move ?_
        refine zq_move ?_
        refine zq_len ?_
        refine zq_ltF ?_
        refine jk_nil ?_
        refine jk_if_f rfl ?_
        refine jk_exit rfl ?_
        refine jk_seq ?_
        refine jk_seq ?_
        refine jk_region ?_
        refine zq_move ?_
        refine zq_move ?_
        refine zq_move ?_
        refine zq_ltF ?_
        refine zq_pick_t ?_
        refine jk_nil ?_
        refine jk_if_f rfl ?_
        refine jk_skip ?_
        refine jk_seq ?_
        refine jk_region ?_
        refine zq_move ?_
        refine zq_assign ?_
        refine jk_nil ?_
        exact jk_ret_any (res1 rfl rfl) (by (repeat (first | exact rs_nil | (refine rs_cons ?_ ?_; (focus ((repeat (first | exact .here | apply Mem.there | apply Take.there)); first | done | fail))) | exact fun ρ hρ => hρ | (intro ρ hρ; repeat (first | exact hρ | refine List.mem_cons_of_mem _ ?_)))); first | done | fail) selZ ⟨σk, hO, rfl⟩
    | false =>
      rw [if_neg (by simp)]
      refine jk_seq ?_
      refine jk_seq ?_
      refine jk_region ?_
      refine zq_move ?_
      refine zq_move ?_
      refine zq_len ?_
      refine zq_ltF ?_
      refine jk_nil ?_
      refine jk_if_f rfl ?_
      refine jk_exit rfl ?_
      refine jk_seq ?_
      refine jk_seq ?_
      refine jk_region ?_
      refine zq_move ?_
      refine zq_move ?_
      refine jk_pass rfl rfl rfl ?_
      refine jk_pass rfl rfl rfl ?_
      refine zq_pick_f ?_
      refine jk_nil ?_
      refine jk_if_f rfl ?_
      refine jk_skip ?_
      refine jk_seq ?_
      refine jk_region ?_
      refine zq_move ?_
      refine zq_assign ?_
      refine jk_nil ?_
      exact jk_ret_any (res1 rfl rfl) (by (repeat (first | exact rs_nil | (refine rs_cons ?_ ?_; (focus ((repeat (first | exact .here | apply Mem.there | apply Take.there)); first | done | fail))) | exact fun ρ hρ => hρ | (intro ρ hρ; repeat (first | exact hρ | refine List.mem_cons_of_mem _ ?_)))); first | done | fail) selZ ⟨σk, hO, rfl⟩
end Go.Proofs.Ytnbihndlbopmeaa
