/- Texts of this proof, one after the other; no conditions. -/
import Derived.WideKeyRuns
import Derived.Test.YtjbebmealbnmgaaGreatWB10
import Derived.Test.YtjbebmealbnmgaaGreatWB2
import Derived.Test.YtjbebmealbnmgaaGreatWB6
import Derived.Test.YtjbebmealbnmgaaGreatWB9
import Derived.Test.YtjbebmealbnmgaaGreatWB7
import Derived.Test.YtjbebmealbnmgaaGreatWB1
set_option linter.all false
/- The table of stocks. -/
namespace Go.Proofs.YtjbebmealbnmgaaGreat
open Go.Eng Go.Step
set_option maxRecDepth 100000
set_option maxHeartbeats 4000000

theorem ch_ok {qs : List Int} {cs : List Ct} {bs : List Bk} {d : Dm} {l : List Sh} (hS : ∀ x ∈ l, ship1 cs bs d x = 0) (hcs : ∀ c ∈ cs, chkCt c = 0 ∧ c.f < qs.length ∧ c.t < qs.length) {c : List Int} (hc : c ∈ chAll cs l) :
    ∃ (nd : Nat) (t y : Int), c = [(nd : Int), t, y] ∧ nd < qs.length ∧ d.r ≤ t ∧ t ≤ d.e ∧ -1000 ≤ y ∧ y ≤ 1000 := by
  obtain ⟨x, hx, hc⟩ := List.mem_flatMap.1 hc
  obtain ⟨nn, k, hnn, hcx, hct, hin, hlate, har⟩ := ship1_ok (hS x hx)
  have hk := hcs k (List.mem_of_getElem? hcx)
  have hck := chkCt_all hk.1
  unfold chsOf at hc
  rw [hct, har] at hc
  simp only [List.mem_cons, List.not_mem_nil, or_false] at hc
  rcases hc with rfl | rfl
  · exact ⟨k.f.toNat, x.t, -x.n, by rw [Int.toNat_of_nonneg (by omega)], by omega, by omega, by omega, by omega, by omega⟩
  · exact ⟨k.t.toNat, x.t + 1 + k.g, x.n, by rw [Int.toNat_of_nonneg (by omega)], by omega, by omega, by omega, by omega, by omega⟩
theorem rowsV_len (n : Nat) (bsr : List Nat) : (rowsV n bsr).length = bsr.length := by simp [rowsV]
theorem rowsV_set {n N k b : Nat} {bsr : List Nat} (hk : bsr.length = k) (hN : k < N) : (rowsV n bsr ++ List.replicate (N - k) (Value.slice none 0 0)).toArray.setIfInBounds k (Value.slice (some ⟨b, 0, none⟩) n n) = (rowsV n (bsr ++ [b]) ++ List.replicate (N - (k + 1)) (Value.slice none 0 0)).toArray := by
  apply Array.toList_inj.1
  rw [Array.toList_setIfInBounds]
  have hr : N - k = (N - (k + 1)) + 1 := by omega
  rw [hr, List.replicate_succ]
  simp only
  rw [List.set_append_right _ _ (by rw [rowsV_len]; omega), rowsV_len, hk, Nat.sub_self, List.set_cons_zero]
  simp [rowsV]
set_option maxHeartbeats 64000000 in
theorem stocks_spec {ρ τ σ υ : PH} (ω : PH) {pq pc pb ph : Option Addr} {kq kc kb kh : Nat} {qs : List Int} {cs : List Ct} {bs : List Bk} {hs : List Hd} (hT : TbAt ρ τ σ υ pq pc pb ph kq kc kb kh qs cs bs hs) (d : Dm) (v : Value) (l : List Sh) (hv : ShAt ω v l) (hS : ∀ x ∈ l, ship1 cs bs d x = 0) (hcs : ∀ c ∈ cs, chkCt c = 0 ∧ c.f < qs.length ∧ c.t < qs.length) (hdm : 0 ≤ d.r ∧ d.r < d.e ∧ d.e ≤ 1099511627776 ∧ d.e - d.r ≤ 100) (hql : qs.length ≤ 16) (hll : l.length ≤ 1000000) :
    Eng.Spec Tryz.prog (fv 40) [.agg #[.slice pq qs.length kq, .slice pc cs.length kc, .slice pb bs.length kb, .slice ph hs.length kh], .agg #[int d.s, int d.d, int d.v, int d.r, int d.e], v] [ρ, τ, σ, υ, ω] [] (fun r H' => ∃ (B : Nat) (γ : PH) (bsr : List Nat), r = .slice (some ⟨B, 0, none⟩) qs.length qs.length ∧ H' = [sng B (.cells (rowsV (d.e - d.r + 1).toNat bsr).toArray 22 (0, 0)), γ] ∧ Tab 3 γ bsr (tabC d qs.length (d.e - d.r + 1).toNat (chAll cs l))) := by
  have hv2 := hv
  obtain ⟨q, cc, rfl, hr⟩ := hv.val encX_len
  obtain ⟨m, hm⟩ : ∃ m : Nat, d.e - d.r + 1 = (m : Int) := ⟨(d.e - d.r + 1).toNat, by omega⟩
  rw [hm, Int.toNat_natCast]
  have hm2 : m ≤ 101 := by omega
  refine spec_in (cap := []) Tryz.func40 rfl rfl Tryz.ntmps40 rfl (by (repeat (first | exact EnvA.nil EnvI.nil | apply EnvA.cons | apply EnvA.nil | exact EnvI.nil | apply EnvI.cons)); first | done | fail) (fun N β => ?_)
  refine jk_seq ?_
  refine jk_region ?_
  refine jk_op (l_boxS rfl) rfl rfl rfl ?_
  rintro _ _ ⟨b1, rfl, rfl⟩
  refine jk_freeze (ρ := sng b1 _) takeZ ?_
  have ct : RdN (sng b1 (.cells #[.slice pq qs.length kq, .slice pc cs.length kc, .slice pb bs.length kb, .slice ph hs.length kh] 29 (0, 0))) b1 0 [.slice pq qs.length kq, .slice pc cs.length kc, .slice pb bs.length kb, .slice ph hs.length kh] := rdN_sng (vs := [.slice pq qs.length kq, .slice pc cs.length kc, .slice pb bs.length kb, .slice ph hs.length kh])
  have ct0 : rdc (sng b1 (.cells #[.slice pq qs.length kq, .slice pc cs.length kc, .slice pb bs.length kb, .slice ph hs.length kh] 29 (0, 0))) b1 0 = some (.slice pq qs.length kq) := by rw [rdc_sng]; rfl
  have ct1 : rdc (sng b1 (.cells #[.slice pq qs.length kq, .slice pc cs.length kc, .slice pb bs.length kb, .slice ph hs.length kh] 29 (0, 0))) b1 1 = some (.slice pc cs.length kc) := by rw [rdc_sng]; rfl
  have ct2 : rdc (sng b1 (.cells #[.slice pq qs.length kq, .slice pc cs.length kc, .slice pb bs.length kb, .slice ph hs.length kh] 29 (0, 0))) b1 2 = some (.slice pb bs.length kb) := by rw [rdc_sng]; rfl
  have ct3 : rdc (sng b1 (.cells #[.slice pq qs.length kq, .slice pc cs.length kc, .slice pb bs.length kb, .slice ph hs.length kh] 29 (0, 0))) b1 3 = some (.slice ph hs.length kh) := by rw [rdc_sng]; rfl
  have ctp : RdP (sng b1 (.cells #[.slice pq qs.length kq, .slice pc cs.length kc, .slice pb bs.length kb, .slice ph hs.length kh] 29 (0, 0))) b1 0 [.slice pq qs.length kq, .slice pc cs.length kc] := rdP_sng (xs := [.slice pq qs.length kq, .slice pc cs.length kc, .slice pb bs.length kb, .slice ph hs.length kh]) rfl
  refine jk_op (l_boxS rfl) rfl rfl rfl ?_
  rintro _ _ ⟨b2, rfl, rfl⟩
  refine jk_freeze (ρ := sng b2 _) takeZ ?_
  have cd : RdN (sng b2 (.cells #[int d.s, int d.d, int d.v, int d.r, int d.e] 31 (0, 0))) b2 0 [int d.s, int d.d, int d.v, int d.r, int d.e] := rdN_sng (vs := [int d.s, int d.d, int d.v, int d.r, int d.e])
  have cd0 : rdc (sng b2 (.cells #[int d.s, int d.d, int d.v, int d.r, int d.e] 31 (0, 0))) b2 0 = some (int d.s) := by rw [rdc_sng]; rfl
  have cd1 : rdc (sng b2 (.cells #[int d.s, int d.d, int d.v, int d.r, int d.e] 31 (0, 0))) b2 1 = some (int d.d) := by rw [rdc_sng]; rfl
  have cd2 : rdc (sng b2 (.cells #[int d.s, int d.d, int d.v, int d.r, int d.e] 31 (0, 0))) b2 2 = some (int d.v) := by rw [rdc_sng]; rfl
  have cd3 : rdc (sng b2 (.cells #[int d.s, int d.d, int d.v, int d.r, int d.e] 31 (0, 0))) b2 3 = some (int d.r) := by rw [rdc_sng]; rfl
  have cd4 : rdc (sng b2 (.cells #[int d.s, int d.d, int d.v, int d.r, int d.e] 31 (0, 0))) b2 4 = some (int d.e) := by rw [rdc_sng]; rfl
  refine jk_emp ?_
  refine zq_assign ?_
  refine jk_nil ?_
  refine jk_seq ?_
  refine jk_region ?_
  refine zq_fld0 ?_
  refine zq_load ?_
  refine zq_fld0 ?_
  refine zq_load ?_
  refine zq_sub ?_
  refine zq_add ?_
  refine zl_alloc1 ?_; rintro _ _ ⟨b, rfl, rfl⟩
  refine zs_storeL ?_; rintro _ _ ⟨rfl, rfl⟩
  refine jk_nil ?_
  refine jk_seq ?_
  refine jk_region ?_
  refine zq_fld0 ?_
  refine zq_fld0 ?_
  refine zq_load ?_
  refine zq_len ?_
  refine zl_makeV ?_; rintro _ _ ⟨b, rfl, rfl⟩
  refine zl_alloc1 ?_; rintro _ _ ⟨b, rfl, rfl⟩
  refine zs_storeL ?_; rintro _ _ ⟨rfl, rfl⟩
  refine jk_nil ?_
  refine jk_seq ?_
  refine jk_seq ?_
  refine jk_region ?_
  refine zq_load ?_
  refine zq_len ?_
  refine zq_move ?_
  refine jk_nil ?_
  refine jk_block ?_
  rw [hm]
  skip
  revert b; intro b8
  revert b; intro B
  revert b; intro b7
  refine jk_freeze (ρ := sng b7 _) takeZ ?_
  refine jk_freeze (ρ := sng b8 _) takeZ ?_
  have g7 : rdc (sng b7 (.cells #[int m] 3 (0, 0))) b7 0 = some (int m) := by rw [rdc_sng]; rfl
  have g8 : rdc (sng b8 (.cells #[.slice (some ⟨B, 0, none⟩) qs.length qs.length] 78 (0, 0))) b8 0 = some (.slice (some ⟨B, 0, none⟩) qs.length qs.length) := by rw [rdc_sng]; rfl
  refine jk_loop [2, 3, 4, 7, 8, 26] (X := Nat × (List Nat × PH)) (0, ([], emp)) (fun x => x.1 ≤ qs.length ∧ x.2.1.length = x.1 ∧ Tab 3 x.2.2 x.2.1 (List.replicate x.1 (List.replicate m 0))) (fun x => [(27, int x.1)]) (fun x => [sng B (.cells (rowsV m x.2.1 ++ List.replicate (qs.length - x.1) (Value.slice none 0 0)).toArray 22 (0, 0)), x.2.2]) (fun x => qs.length - x.1) pickZ ⟨by dsimp only; omega, rfl, Tab.nil _ _⟩ covZ selZ ?_
  rintro ⟨k, bsr, γ⟩ ⟨hk, hbl, hTb⟩
  dsimp only at hk hbl hTb ⊢
  by_cases hlt : k < qs.length
  · refine jk_seq ?_
    refine jk_region ?_
    refine zq_lt ?_
    refine jk_nil ?_
    refine jk_seq ?_
    refine jk_if_t rfl ?_
    refine jk_skip ?_
    refine jk_seq ?_
    refine jk_block ?_
    refine jk_seq ?_
    refine jk_region ?_
    refine zq_move ?_
    refine zq_assign ?_
    refine jk_nil ?_
    refine jk_draw (.q 0 (.q 1 (.q 2 (.l 3 .e (.q 4 (.l 5 .b .nil)))))) [] rfl (by kernel_rfl) Sel.nil ?_
    refine zd_load ?_
    refine zd_move ?_
    refine zd_load ?_
    refine ze_makeI ?_; rintro _ _ ⟨b, rfl, rfl⟩
    refine zd_idx0 ?_
    refine dj_l ?_
    refine' a_bn rfl _ rfl rfl _ _; rotate_left
    · (apply l_store; exact rfl; exact rfl; exact rfl; exact rfl; exact takeZ; (simp [rowsV_len, hbl]; omega))
    · rintro _ _ ⟨_, rfl⟩ w hw; exact hw.sel Sel.nil
    rintro _ _ ⟨rfl, rfl⟩
    refine dj_end ?_
    refine jk_blk ?_
    refine jk_region ?_
    refine zq_inc ?_
    refine zq_move ?_
    refine jk_nil ?_
    rw [rowsV_set hbl hlt]
    refine jk_joinB (b := b) (γ := γ) takeZ takeZ (fun hγ => ?_)
    refine jk_round (k + 1, (bsr ++ [b], _)) ⟨by dsimp only; omega, by simp [hbl], ?_⟩ (by dsimp only; omega) covZ selZ
    dsimp only
    rw [List.replicate_succ']
    exact hTb.add hγ
  have hke : k = qs.length := by omega
  subst hke
  rw [Nat.sub_self, List.replicate_zero, List.append_nil]
  rw [← tabC_zero d] at hTb
  refine jk_seq ?_
  refine jk_region ?_
  refine zq_ltF ?_
  refine jk_nil ?_
  refine jk_seq ?_
  refine jk_if_f rfl ?_
  refine jk_exit rfl ?_
  refine jk_seq ?_
  refine jk_seq ?_
  refine jk_region ?_
  refine zq_loadS ?_
  refine zq_move ?_
  refine jk_callH (changes_spec (.slice q l.length cc) pq pc pb ph qs.length cs.length bs.length hs.length kq kc kb kh rfl) rfl rfl Takes.nil (fun τ hτ => by simp at hτ) rfl rfl ?_
  rintro _ _ ⟨bl, bt, rfl, rfl⟩
  refine jk_freeze (ρ := sng bl _) takeZ ?_
  refine jk_freeze (ρ := sng bt _) takeZ ?_
  refine jk_nil ?_
  refine jk_block ?_
  refine jk_range (gf := 75) (cap := [.pointer (some ⟨bl, 0, none⟩), .pointer (some ⟨bt, 0, none⟩)]) (ps := [39]) (X := PH) rfl Tryz.func75 rfl rfl
    (changes_iter ω hT bl bt d _ l hv2 hS (fun c hc => (hcs c hc).1) hdm.1 hll) ?_
    (fun i γ => Tab 3 γ bsr (tabC d qs.length m ((chAll cs l).take i)))
    (fun γ => [sng B (.cells (rowsV m bsr).toArray 22 (0, 0)), γ]) (fun _ _ => False) γ rfl (by (repeat (first | exact Takes.nil | (apply Takes.cons; exact (by (repeat (first | exact .here | apply Take.there)); first | done | fail)))); first | done | fail) hTb ?_ ?_ ?_
  · intro σ' hσ
    simp only [List.mem_cons, List.not_mem_nil, or_false] at hσ ⊢
    rcases hσ with h | h | h | h <;> simp [h]
  · rintro lo r i γ vs hvs hI hps has hbd hst hpe hfr
    obtain ⟨st, pe, fnn, tm, prm, asg, bdy, df⟩ := r
    simp only at hps has hbd hst hpe hfr
    subst hps has hbd hst hpe
    rw [List.getElem?_map] at hvs
    obtain ⟨c, hc, rfl⟩ := Option.map_eq_some_iff.1 hvs
    obtain ⟨nd, t, y, rfl, hnd, ht1, ht2, hy1, hy2⟩ := ch_ok hS hcs (List.mem_of_getElem? hc)
    refine yield_spec hfr rfl (by intro p hp; simp at hp; omega) (by (repeat (first | exact PutI.nil | apply PutI.cons)); first | done | fail) (fun N' β' => ?_)
    dsimp only
    refine jk_region ?_
    refine zl_allocS ?_; rintro _ _ ⟨b, rfl, rfl⟩
    refine zs_storeS ?_; rintro _ _ ⟨rfl, rfl⟩
    refine jk_nil ?_
    refine jk_switch rfl rfl ?_
    refine jk_begin takeZ rfl ?_
    revert b; intro bx
    refine jk_freeze (ρ := sng bx _) takeZ ?_
    have gx0 : rdc (sng bx (.cells #[int nd, int t, int y] 101 (0, 0))) bx 0 = some (int nd) := by rw [rdc_sng]; rfl
    have gx1 : rdc (sng bx (.cells #[int nd, int t, int y] 101 (0, 0))) bx 1 = some (int t) := by rw [rdc_sng]; rfl
    have gx2 : rdc (sng bx (.cells #[int nd, int t, int y] 101 (0, 0))) bx 2 = some (int y) := by rw [rdc_sng]; rfl
    obtain ⟨a, ha⟩ : ∃ a : Nat, t - d.r = (a : Int) := ⟨(t - d.r).toNat, by omega⟩
    have hbr := List.getElem?_eq_getElem (show nd < bsr.length by omega)
    have hrow0 := tabC_get (d := d) (m := m) (l := (chAll cs l).take i) hnd
    have hnext := tabC_next (d := d) (m := m) hc hnd
    have hfb : ∀ k, -(2000000000 : Int) ≤ chS d nd k ((chAll cs l).take i) ∧ chS d nd k ((chAll cs l).take i) ≤ 2000000000 := fun k => by
      have h1 := chS_bd d nd k ((chAll cs l).take i) (fun c hc => by
        obtain ⟨n', t', y', rfl, _, _, _, k1, k2⟩ := ch_ok hS hcs (List.mem_of_mem_take hc)
        exact ⟨k1, k2⟩)
      have h2 := chAll_len cs l
      have h3 : ((chAll cs l).take i).length ≤ (chAll cs l).length := by rw [List.length_take]; omega
      omega
    have hlt2 : nd < (tabC d qs.length m ((chAll cs l).take i)).length := by rw [tabC_len]; exact hnd
    rw [ha] at hnext
    generalize hFF : (fun k => chS d nd k ((chAll cs l).take i)) = F at hrow0
    have hFk : ∀ k, chS d nd k ((chAll cs l).take i) = F k := fun k => by rw [← hFF]
    simp only [hFk] at hnext hfb
    generalize tabC d qs.length m ((chAll cs l).take i) = rows at hI hrow0 hnext hlt2
    generalize bsr[nd] = br at hbr
    have gB : rdc (sng B (.cells (rowsV m bsr).toArray 22 (0, 0))) B nd = some (.slice (some ⟨br, 0, none⟩) m m) := by
      rw [rdc_sng]
      simp [rowsV, hbr]
    by_cases hsrc : (nd : Int) = d.s
    · refine jk_block ?_
      refine jk_seq ?_
      refine jk_region ?_
      refine zq_fld0 ?_
      refine zq_load ?_
      refine zq_fld0 ?_
      refine zq_load ?_
      refine zq_sub ?_
      refine zq_assign ?_
      refine jk_nil ?_
      refine jk_seq ?_
      refine jk_seq ?_
      refine jk_region ?_
      refine zq_fld0 ?_
      refine zq_load ?_
      refine zq_fld0 ?_
      refine zq_load ?_
      refine zq_eq ?_
      refine jk_nil ?_
      refine jk_if_t rfl ?_
      refine jk_seq ?_
      refine jk_seq ?_
      refine jk_region ?_
      refine zq_move ?_
      refine zq_load ?_
      refine zq_min ?_
      refine zq_move ?_
      refine jk_nil ?_
      refine jk_block ?_
      rw [ha]
      skip
      refine jk_loop [4, 7, 8, 10, 52] (X := Nat × PH) (0, γ) (fun x => (x.1 : Int) ≤ min (a : Int) m ∧ Tab 3 x.2 bsr (rows.set nd (rowC m (fun k => F k + if (k : Int) < (x.1 : Int) then -y else 0)))) (fun x => [(53, int x.1)]) (fun x => [sng lo (.loop _), sng B _, x.2]) (fun x => m - x.1) pickZ ⟨by dsimp only; omega, ?_⟩ covZ selZ ?_
      · dsimp only
        have e : rowC m (fun k => F k + if (k : Int) < ((0 : Nat) : Int) then -y else 0) = rowC m F := rowC_congr (fun k _ => by rw [if_neg (by omega), Int.add_zero])
        rw [e]
        have e2 : rows.set nd (rowC m F) = rows := by
          obtain ⟨h1, h2⟩ := List.getElem?_eq_some_iff.1 hrow0
          rw [← h2, List.set_getElem_self]
        rw [e2]
        exact hI
      rintro ⟨j, γ'⟩ ⟨hj, hTj⟩
      dsimp only at hj hTj ⊢
      by_cases hjl : (j : Int) < min (a : Int) m
      · have hjm : j < m := by omega
        have hrowj := List.getElem?_set_self (a := rowC m (fun k => F k + if (k : Int) < (j : Int) then -y else 0)) hlt2
        have hcell := hTj.cell hbr hrowj (rowC_get hjm)
        rw [if_neg (by omega), Int.add_zero] at hcell
        have hb := hfb j
        have hst := hTj.row nd br _ hbr hrowj
        refine jk_seq ?_
        refine jk_region ?_
        refine zq_lt ?_
        refine jk_nil ?_
        refine jk_seq ?_
        refine jk_if_t rfl ?_
        refine jk_skip ?_
        refine jk_seq ?_
        refine jk_block ?_
        refine jk_seq ?_
        refine jk_region ?_
        refine zq_move ?_
        refine zq_assign ?_
        refine jk_nil ?_
        refine jk_draw (.q 0 (.q 1 (.q 2 (.q 3 (.q 4 (.q 5 (.q 6 (.q 7 (.q 8 (.q 9 (.q 10 (.q 11 (.l 12 .b .nil))))))))))))) [] rfl (by kernel_rfl) Sel.nil ?_
        refine zd_load ?_
        refine zd_fld0 ?_
        refine zd_load ?_
        refine zd_idx0 ?_
        refine zd_load ?_
        refine zd_move ?_
        refine zd_idx0 ?_
        refine zd_load ?_
        refine zd_fld0 ?_
        refine zd_load ?_
        refine zd_sub ?_
        refine zd_idx0 ?_
        refine dj_l ?_
        refine' a_bn rfl _ rfl rfl _ _; rotate_left
        · (apply l_storeP (γ := γ'); exact rfl; exact rfl; exact rfl; exact rfl; exact takeZ; exact hst; (rw [ints_size, rowC_len]; exact hjm))
        · rintro _ _ ⟨_, rfl⟩ w hw; exact hw.sel Sel.nil
        rintro _ _ ⟨rfl, rfl⟩
        refine dj_end ?_
        refine jk_blk ?_
        refine jk_region ?_
        refine zq_inc ?_
        refine zq_move ?_
        refine jk_nil ?_
        rw [ints_set, rowC_set]
        have hset := hTj.set (r2 := rowC m (fun k => if k = j then F j - y else F k + if (k : Int) < (j : Int) then -y else 0)) hbr hrowj
        rw [List.set_set] at hset
        refine jk_round (j + 1, _) ⟨by dsimp only; omega, ?_⟩ (by dsimp only; omega) covZ selZ
        dsimp only
        have e : rowC m (fun k => F k + if (k : Int) < ((j + 1 : Nat) : Int) then -y else 0) = rowC m (fun k => if k = j then F j - y else F k + if (k : Int) < (j : Int) then -y else 0) := rowC_congr (fun k _ => by
          by_cases e : k = j
          · subst e; rw [if_pos rfl, if_pos (by omega)]; try omega
          · rw [if_neg e]
            by_cases e2 : (k : Int) < (j : Int)
            · rw [if_pos e2, if_pos (by omega)]
            · rw [if_neg e2, if_neg (by omega)])
        rw [e]
        exact hset
      · have hje : (j : Int) = min (a : Int) m := by omega
        rw [hje, row_src (a := (a : Int)) hsrc, ← hnext] at hTj
        refine jk_seq ?_
        refine jk_region ?_
        refine zq_ltF ?_
        refine jk_nil ?_
        refine jk_seq ?_
        refine jk_if_f rfl ?_
        refine jk_exit rfl ?_
        refine jk_exit rfl ?_
        exact jk_roundEnd takeZ (by (repeat (first | exact rs_nil | (refine rs_cons ?_ ?_; (focus ((repeat (first | exact .here | apply Mem.there | apply Take.there)); first | done | fail))) | exact fun ρ hρ => hρ | (intro ρ hρ; repeat (first | exact hρ | refine List.mem_cons_of_mem _ ?_)))); first | done | fail) selZ ⟨γ', .inl ⟨rfl, hTj, rfl⟩⟩
    · refine jk_block ?_
      refine jk_seq ?_
      refine jk_region ?_
      refine zq_fld0 ?_
      refine zq_load ?_
      refine zq_fld0 ?_
      refine zq_load ?_
      refine zq_sub ?_
      refine zq_assign ?_
      refine jk_nil ?_
      refine jk_seq ?_
      refine jk_seq ?_
      refine jk_region ?_
      refine zq_fld0 ?_
      refine zq_load ?_
      refine zq_fld0 ?_
      refine zq_load ?_
      refine zq_eqF ?_
      refine jk_nil ?_
      refine jk_if_f rfl ?_
      refine jk_skip ?_
      refine jk_seq ?_
      refine jk_region ?_
      refine zq_move ?_
      refine zq_assign ?_
      refine jk_nil ?_
      refine jk_block ?_
      rw [ha]
      skip
      refine jk_loop [4, 7, 8, 10] (X := Nat × PH) (a, γ) (fun x => a ≤ x.1 ∧ (x.1 ≤ m ∨ x.1 = a) ∧ Tab 3 x.2 bsr (rows.set nd (rowC m (fun k => F k + if a ≤ k ∧ k < x.1 then y else 0)))) (fun x => [(13, int x.1)]) (fun x => [sng lo (.loop _), sng B _, x.2]) (fun x => m - x.1) pickZ ⟨by dsimp only; omega, by dsimp only; omega, ?_⟩ covZ selZ ?_
      · dsimp only
        have e : rowC m (fun k => F k + if a ≤ k ∧ k < a then y else 0) = rowC m F := rowC_congr (fun k _ => by rw [if_neg (by omega), Int.add_zero])
        rw [e]
        have e2 : rows.set nd (rowC m F) = rows := by
          obtain ⟨h1, h2⟩ := List.getElem?_eq_some_iff.1 hrow0
          rw [← h2, List.set_getElem_self]
        rw [e2]
        exact hI
      rintro ⟨j, γ'⟩ ⟨hj, hj2, hTj⟩
      dsimp only at hj hj2 hTj ⊢
      by_cases hjm : j < m
      · skip
        have hrowj := List.getElem?_set_self (a := rowC m (fun k => F k + if a ≤ k ∧ k < j then y else 0)) hlt2
        have hcell := hTj.cell hbr hrowj (rowC_get hjm)
        rw [if_neg (by omega), Int.add_zero] at hcell
        have hb := hfb j
        have hst := hTj.row nd br _ hbr hrowj
        refine jk_seq ?_
        refine jk_seq ?_
        refine jk_region ?_
        refine zq_move ?_
        refine zq_load ?_
        refine zq_lt ?_
        refine jk_nil ?_
        refine jk_if_t rfl ?_
        refine jk_skip ?_
        refine jk_seq ?_
        refine jk_block ?_
        refine jk_draw (.q 0 (.q 1 (.q 2 (.q 3 (.q 4 (.q 5 (.q 6 (.q 7 (.q 8 (.q 9 (.q 10 (.q 11 (.l 12 .b .nil))))))))))))) [] rfl (by kernel_rfl) Sel.nil ?_
        refine zd_load ?_
        refine zd_fld0 ?_
        refine zd_load ?_
        refine zd_idx0 ?_
        refine zd_load ?_
        refine zd_move ?_
        refine zd_idx0 ?_
        refine zd_load ?_
        refine zd_fld0 ?_
        refine zd_load ?_
        refine zd_add ?_
        refine zd_idx0 ?_
        refine dj_l ?_
        refine' a_bn rfl _ rfl rfl _ _; rotate_left
        · (apply l_storeP (γ := γ'); exact rfl; exact rfl; exact rfl; exact rfl; exact takeZ; exact hst; (rw [ints_size, rowC_len]; exact hjm))
        · rintro _ _ ⟨_, rfl⟩ w hw; exact hw.sel Sel.nil
        rintro _ _ ⟨rfl, rfl⟩
        refine dj_end ?_
        refine jk_blk ?_
        refine jk_region ?_
        refine zq_move ?_
        refine zq_inc ?_
        refine zq_assign ?_
        refine jk_nil ?_
        rw [ints_set, rowC_set]
        have hset := hTj.set (r2 := rowC m (fun k => if k = j then F j + y else F k + if a ≤ k ∧ k < j then y else 0)) hbr hrowj
        rw [List.set_set] at hset
        refine jk_round (j + 1, _) ⟨by dsimp only; omega, by dsimp only; omega, ?_⟩ (by dsimp only; omega) covZ selZ
        dsimp only
        have e : rowC m (fun k => F k + if a ≤ k ∧ k < j + 1 then y else 0) = rowC m (fun k => if k = j then F j + y else F k + if a ≤ k ∧ k < j then y else 0) := rowC_congr (fun k _ => by
          by_cases e : k = j
          · subst e; rw [if_pos rfl, if_pos (by omega)]; try omega
          · rw [if_neg e]
            by_cases e2 : a ≤ k ∧ k < j
            · rw [if_pos e2, if_pos (by omega)]
            · rw [if_neg e2, if_neg (by omega)])
        rw [e]
        exact hset
      · rw [row_oth (a := a) hsrc (by omega), ← hnext] at hTj
        refine jk_seq ?_
        refine jk_seq ?_
        refine jk_region ?_
        refine zq_move ?_
        refine zq_load ?_
        refine zq_ltF ?_
        refine jk_nil ?_
        refine jk_if_f rfl ?_
        refine jk_exit rfl ?_
        refine jk_blk ?_
        exact jk_roundEnd takeZ (by (repeat (first | exact rs_nil | (refine rs_cons ?_ ?_; (focus ((repeat (first | exact .here | apply Mem.there | apply Take.there)); first | done | fail))) | exact fun ρ hρ => hρ | (intro ρ hρ; repeat (first | exact hρ | refine List.mem_cons_of_mem _ ?_)))); first | done | fail) selZ ⟨γ', .inl ⟨rfl, hTj, rfl⟩⟩
  · rintro b2' γ hI
    rw [List.length_map, List.take_length] at hI
    refine jk_blk ?_
    refine jk_seq ?_
    refine jk_region ?_
    refine zq_load ?_
    refine zq_assign ?_
    refine jk_nil ?_
    exact jk_retM (Marks.cons .here .nil) (res1 rfl rfl) (by (repeat (first | exact rs_nil | (refine rs_cons ?_ ?_; (focus ((repeat (first | exact .here | apply Mem.there | apply Take.there)); first | done | fail))) | exact fun ρ hρ => hρ | (intro ρ hρ; repeat (first | exact hρ | refine List.mem_cons_of_mem _ ?_)))); first | done | fail) selZ ⟨B, γ, bsr, rfl, rfl, hI⟩
  · rintro _ _ _ h; exact h.elim
end Go.Proofs.YtjbebmealbnmgaaGreat
/- The least of numbers; nodes between. -/
namespace Go.Proofs.YtjbebmealbnmgaaGreat
open Go.Eng Go.Step
set_option maxRecDepth 100000
set_option maxHeartbeats 4000000

theorem minI_spec (ρ : PH) (v : Value) (l : List Int) (hv : IntsAt ρ v l) (h0 : 0 < l.length) (hl : l.length ≤ 1000000) :
    Ans Tryz.prog (fv 42) [v] [ρ] (fun r => ∃ z : Int, r = int z ∧ (z < 0 ↔ ∃ x ∈ l, x < 0)) := by
  obtain ⟨q, c, rfl, hr⟩ := hv.val Eng.encI_len
  obtain ⟨b0, o0, rfl, g0⟩ := hr.int (List.getElem?_eq_getElem h0)
  refine spec_in (cap := []) Tryz.func42 rfl rfl Tryz.ntmps42 rfl (by (repeat (first | exact EnvA.nil EnvI.nil | apply EnvA.cons | apply EnvA.nil | exact EnvI.nil | apply EnvI.cons)); first | done | fail) (fun N β => ?_)
  refine jk_seq ?_
  refine jk_region ?_
  refine zq_assign ?_
  refine jk_nil ?_
  refine jk_seq ?_
  refine jk_seq ?_
  refine jk_region ?_
  refine zq_move ?_
  refine zq_len ?_
  refine zq_ltF ?_
  refine jk_nil ?_
  refine jk_if_f rfl ?_
  refine jk_skip ?_
  refine jk_seq ?_
  refine jk_region ?_
  refine zq_move ?_
  refine zq_idx1 ?_
  refine zq_load ?_
  refine zq_assign ?_
  refine jk_nil ?_
  refine jk_seq ?_
  refine jk_seq ?_
  refine jk_region ?_
  refine zq_assign ?_
  refine jk_nil ?_
  refine jk_block ?_
  refine jk_loop [0] (X := Nat × Int) (1, l[0]) (fun x => 1 ≤ x.1 ∧ x.1 ≤ l.length ∧ (x.2 < 0 ↔ ∃ y ∈ l.take x.1, y < 0)) (fun x => [(4, int x.1), (3, int x.2)]) (fun _ => []) (fun x => l.length - x.1) pickZ ⟨by dsimp only; omega, by dsimp only; omega, ?_⟩ covZ selZ ?_
  · dsimp only
    have e : l.take 1 = [l[0]] := by
      cases l with
      | nil => simp at h0
      | cons a l => rfl
    rw [e]
    simp
  rintro ⟨k, z⟩ ⟨hk1, hk, hI⟩
  dsimp only at hk1 hk hI ⊢
  by_cases hlt : k < l.length
  · obtain ⟨_, _, e, g1⟩ := hr.int (List.getElem?_eq_getElem hlt)
    simp only [Option.some.injEq, Addr.mk.injEq, and_true] at e
    obtain ⟨rfl, rfl⟩ := e
    have htk := List.take_succ_eq_append_getElem hlt
    generalize l[k] = x at g1 htk
    refine jk_seq ?_
    refine jk_seq ?_
    refine jk_region ?_
    refine zq_move ?_
    refine zq_move ?_
    refine zq_len ?_
    refine zq_lt ?_
    refine jk_nil ?_
    refine jk_if_t rfl ?_
    refine jk_skip ?_
    refine jk_seq ?_
    refine jk_block ?_
    refine jk_region ?_
    refine zq_move ?_
    refine zq_move ?_
    refine zq_move ?_
    refine zq_idx1 ?_
    refine zq_load ?_
    refine zq_min ?_
    refine zq_assign ?_
    refine jk_nil ?_
    refine jk_blk ?_
    refine jk_region ?_
    refine zq_move ?_
    refine zq_inc ?_
    refine zq_assign ?_
    refine jk_nil ?_
    refine jk_round (k + 1, min z x) ⟨by dsimp only; omega, by dsimp only; omega, ?_⟩ (by dsimp only; omega) covZ selZ
    dsimp only
    rw [htk]
    constructor
    · intro h
      by_cases hz : z < 0
      · obtain ⟨y, hy, h2⟩ := hI.1 hz
        exact ⟨y, by simp [hy], h2⟩
      · exact ⟨x, by simp, by omega⟩
    · rintro ⟨y, hy, h2⟩
      rcases List.mem_append.1 hy with hy | hy
      · have := hI.2 ⟨y, hy, h2⟩; omega
      · simp only [List.mem_singleton] at hy; subst hy; omega
  have hke : k = l.length := by omega
  subst hke
  rw [List.take_length] at hI
  refine jk_seq ?_
  refine jk_seq ?_
  refine jk_region ?_
  refine zq_move ?_
  refine zq_move ?_
  refine zq_len ?_
  refine zq_ltF ?_
  refine jk_nil ?_
  refine jk_if_f rfl ?_
  refine jk_exit rfl ?_
  refine jk_seq ?_
  refine jk_region ?_
  refine zq_move ?_
  refine zq_assign ?_
  refine jk_nil ?_
  exact jk_ret_any (res1 rfl rfl) (by (repeat (first | exact rs_nil | (refine rs_cons ?_ ?_; (focus ((repeat (first | exact .here | apply Mem.there | apply Take.there)); first | done | fail))) | exact fun ρ hρ => hρ | (intro ρ hρ; repeat (first | exact hρ | refine List.mem_cons_of_mem _ ?_)))); first | done | fail) selZ ⟨rfl, z, rfl, hI⟩
theorem between_spec (bt : Nat) (d : Dm) (n : Int) : Ans Tryz.prog (.func (.func 41) #[] #[.pointer (some ⟨bt, 0, none⟩)]) [int n] [sng bt (.cells #[int d.s, int d.d, int d.v, int d.r, int d.e] 31 (0, 0))] (fun r => r = .bool (decide (n ≠ d.s ∧ n ≠ d.d))) := by
  refine spec_in (cap := [.pointer (some ⟨bt, 0, none⟩)]) Tryz.func41 rfl rfl Tryz.ntmps41 rfl (by (repeat (first | exact EnvA.nil EnvI.nil | apply EnvA.cons | apply EnvA.nil | exact EnvI.nil | apply EnvI.cons)); first | done | fail) (fun N β => ?_)
  have c0 : rdc (sng bt (.cells #[int d.s, int d.d, int d.v, int d.r, int d.e] 31 (0, 0))) bt 0 = some (int d.s) := by rw [rdc_sng]; rfl
  have c1 : rdc (sng bt (.cells #[int d.s, int d.d, int d.v, int d.r, int d.e] 31 (0, 0))) bt 1 = some (int d.d) := by rw [rdc_sng]; rfl
  by_cases h1 : n = d.s
  · rw [decide_eq_false (fun h => h.1 h1)]
    refine jk_seq ?_
    refine jk_region ?_
    refine zq_assign ?_
    refine jk_nil ?_
    refine jk_seq ?_
    refine jk_region ?_
    refine zq_move ?_
    refine zq_fld0 ?_
    refine zq_load ?_
    refine zq_neF ?_
    refine zq_move ?_
    refine jk_pass rfl rfl rfl ?_
    refine jk_pass rfl rfl rfl ?_
    refine jk_pass rfl rfl rfl ?_
    refine jk_pass rfl rfl rfl ?_
    refine zq_pick_f ?_
    refine zq_assign ?_
    refine jk_nil ?_
    exact jk_ret_any (res1 rfl rfl) (by (repeat (first | exact rs_nil | (refine rs_cons ?_ ?_; (focus ((repeat (first | exact .here | apply Mem.there | apply Take.there)); first | done | fail))) | exact fun ρ hρ => hρ | (intro ρ hρ; repeat (first | exact hρ | refine List.mem_cons_of_mem _ ?_)))); first | done | fail) selZ ⟨rfl, rfl⟩
  · by_cases h2 : n = d.d
    · rw [decide_eq_false (fun h => h.2 h2)]
      refine jk_seq ?_
      refine jk_region ?_
      refine zq_assign ?_
      refine jk_nil ?_
      refine jk_seq ?_
      refine jk_region ?_
      refine zq_move ?_
      refine zq_fld0 ?_
      refine zq_load ?_
      refine zq_ne ?_
      refine zq_move ?_
      refine zq_move ?_
      refine zq_fld0 ?_
      refine zq_load ?_
      refine zq_neF ?_
      refine zq_pick_t ?_
      refine zq_assign ?_
      refine jk_nil ?_
      exact jk_ret_any (res1 rfl rfl) (by (repeat (first | exact rs_nil | (refine rs_cons ?_ ?_; (focus ((repeat (first | exact .here | apply Mem.there | apply Take.there)); first | done | fail))) | exact fun ρ hρ => hρ | (intro ρ hρ; repeat (first | exact hρ | refine List.mem_cons_of_mem _ ?_)))); first | done | fail) selZ ⟨rfl, rfl⟩
    · rw [decide_eq_true ⟨h1, h2⟩]
      refine jk_seq ?_
      refine jk_region ?_
      refine zq_assign ?_
      refine jk_nil ?_
      refine jk_seq ?_
      refine jk_region ?_
      refine zq_move ?_
      refine zq_fld0 ?_
      refine zq_load ?_
      refine zq_ne ?_
      refine zq_move ?_
      refine zq_move ?_
      refine zq_fld0 ?_
      refine zq_load ?_
      refine zq_ne ?_
      refine zq_pick_t ?_
      refine zq_assign ?_
      refine jk_nil ?_
      exact jk_ret_any (res1 rfl rfl) (by (repeat (first | exact rs_nil | (refine rs_cons ?_ ?_; (focus ((repeat (first | exact .here | apply Mem.there | apply Take.there)); first | done | fail))) | exact fun ρ hρ => hρ | (intro ρ hρ; repeat (first | exact hρ | refine List.mem_cons_of_mem _ ?_)))); first | done | fail) selZ ⟨rfl, rfl⟩
/-- a node's row: is a stock negative, or left behind? -/
theorem conf_row (cs : List Ct) (d : Dm) (l : List Sh) (n : Int) (m : Nat) (hm : d.e - d.r + 1 = m) (hm0 : d.r < d.e) :
    anyT (confAt cs d l n) d.r m = true ↔ (∃ x ∈ rowC m (fun k => stock cs d n (d.r + k) l), x < 0) ∨ (n ≠ d.s ∧ n ≠ d.d ∧ stock cs d n d.e l ≠ 0) := by
  unfold anyT confAt
  rw [List.any_eq_true]
  constructor
  · rintro ⟨k, hk, h⟩
    simp only [List.mem_range] at hk
    rcases of_decide_eq_true h with h | ⟨h1, h2, h3, h4⟩
    · exact .inl ⟨_, List.mem_map.2 ⟨k, by simpa using hk, rfl⟩, h⟩
    · rw [h1] at h4
      exact .inr ⟨h2, h3, h4⟩
  · rintro (⟨x, hx, h⟩ | ⟨h1, h2, h3⟩)
    · obtain ⟨k, hk, rfl⟩ := List.mem_map.1 hx
      exact ⟨k, hk, decide_eq_true (.inl h)⟩
    · refine ⟨m - 1, by simp; omega, decide_eq_true (.inr ?_)⟩
      have e : d.r + ((m - 1 : Nat) : Int) = d.e := by omega
      rw [e]
      exact ⟨rfl, h1, h2, h3⟩
end Go.Proofs.YtjbebmealbnmgaaGreat
/- Maps whose keys are structs of two or three ints: looked up, changed. No conditions. -/
namespace Go.Eng
variable {C : Cx} {D : List Deferred} {R H : List PH} {L : Env} {K : List It}
variable {dst : Option Tmp} {ty : TypeId} {pos : String} {aft : Array Edge} {g : Option (Nat × Bool)}
abbrev aggI (k : List Int) : Value := .agg (k.map int).toArray
def entsS : Nat → List (List Int × Value) → List MapEntry
  | _, [] => []
  | i, kv :: m => ⟨aggI kv.1, kv.2, i⟩ :: entsS (i + 1) m
def mapS (m : List (List Int × Value)) : Obj := .map (entsS 0 m).toArray m.length
def midxS (k : List Int) : List (List Int × Value) → Option (Nat × Value)
  | [] => none
  | (a, v) :: m => if k = a then some (0, v) else (midxS k m).map (fun p => (p.1 + 1, p.2))
def mgetS (k : List Int) (m : List (List Int × Value)) : Option Value := (midxS k m).map (·.2)
def msetS (k : List Int) (v : Value) : List (List Int × Value) → List (List Int × Value)
  | [] => [(k, v)]
  | (a, w) :: m => if k = a then (a, v) :: m else (a, w) :: msetS k v m
theorem mgetS_mset (k x : List Int) (v : Value) : ∀ m : List (List Int × Value), mgetS x (msetS k v m) = if x = k then some v else mgetS x m
  | [] => by
    by_cases h : x = k <;> simp [msetS, mgetS, midxS, h]
  | (a, w) :: m => by
    have ih := mgetS_mset k x v m
    by_cases h : k = a
    · subst h
      simp only [msetS, if_true, mgetS, midxS]
      by_cases e : x = k <;> simp [e]
    · simp only [msetS, if_neg h, mgetS, midxS] at ih ⊢
      by_cases e : x = a
      · subst e
        simp [Ne.symm h]
      · simp only [if_neg e, Option.map_map] at ih ⊢
        have e2 : ((fun x : Nat × Value => x.2) ∘ fun p : Nat × Value => (p.1 + 1, p.2)) = fun x => x.2 := rfl
        rw [e2, ih]
theorem mset_noneS {k : List Int} {v : Value} : ∀ {m : List (List Int × Value)} (i : Nat), midxS k m = none → entsS i m ++ [⟨aggI k, v, i + m.length⟩] = entsS i (msetS k v m) ∧ (msetS k v m).length = m.length + 1
  | [], i, _ => ⟨rfl, rfl⟩
  | (a, w) :: m, i, h => by
    unfold midxS at h
    split at h
    · exact absurd h (by simp)
    · rename_i hk
      have h' : midxS k m = none := by simpa using h
      obtain ⟨e, l⟩ := mset_noneS (k := k) (v := v) (m := m) (i + 1) h'
      simp only [msetS, if_neg hk, entsS, List.cons_append, List.length_cons, l, and_true, ← e]
      congr 4
      omega
theorem mset_someS {k : List Int} {v : Value} : ∀ {m : List (List Int × Value)} (i n : Nat) (w : Value), midxS k m = some (n, w) → (entsS i m).modify n (fun e => { e with key := aggI k, val := v }) = entsS i (msetS k v m) ∧ (msetS k v m).length = m.length ∧ n < m.length ∧ ((entsS i m)[n]?).map (·.key) = some (aggI k)
  | [], i, n, w, h => by simp [midxS] at h
  | (a, u) :: m, i, n, w, h => by
    unfold midxS at h
    split at h
    · rename_i hk
      subst hk
      simp at h
      obtain ⟨rfl, rfl⟩ := h
      simp [entsS, msetS]
    · rename_i hk
      cases hm : midxS k m with
      | none => rw [hm] at h; simp at h
      | some p =>
        rw [hm] at h
        simp at h
        obtain ⟨rfl, rfl⟩ := h
        obtain ⟨e, l, l2, l3⟩ := mset_someS (k := k) (v := v) (m := m) (i + 1) p.1 p.2 hm
        simp only [msetS, if_neg hk, entsS, List.length_cons, l, List.modify_succ_cons, e]
        refine ⟨trivial, trivial, by omega, ?_⟩
        simpa using l3
/-- a map's key: a struct of n ints -/
structure KeyS (P : Program) (kt : TypeId) (n : Nat) : Prop where
  i : intsP P kt n = true
  s : P.stoodInHeld kt = false
theorem run_askS {P : Program} {w : World} {kt : TypeId} {n : Nat} {k : List Int} (hk : KeyS P kt n) (hn : k.length = n) : ∀ (m : List (List Int × Value)) (i j : Nat), (∀ x ∈ m, x.1.length = n) → (Instr.findAsking kt (aggI k) (entsS i m) j).run P w = .ok ((midxS k m).map (fun p => (j + p.1, p.2))) w
  | [], i, j, _ => by simp [entsS, Instr.findAsking, midxS]
  | (a, v) :: m, i, j, h => by
    have ih := run_askS (w := w) hk hn m (i + 1) (j + 1) (fun x hx => h x (by simp [hx]))
    have he := run_eqInts (P := P) w hk.i hk.s hn (h (a, v) (by simp))
    simp only [entsS, Instr.findAsking, Op.equal, Op.maxDepth, Sem.run_bind, he, Result.andThen_ok, midxS]
    by_cases e : k = a
    · simp [e]
    · simp only [e, decide_false, Bool.false_eq_true, if_false, ih, Option.map_map]
      congr 2
      funext p
      show (j + 1 + p.1, p.2) = (j + (p.1 + 1), p.2)
      rw [show j + 1 + p.1 = j + (p.1 + 1) by omega]
theorem run_findS {P : Program} {w : World} {kt : TypeId} {n : Nat} {k : List Int} (hk : KeyS P kt n) (hn : k.length = n) {m : List (List Int × Value)} (h : ∀ x ∈ m, x.1.length = n) : (Instr.findKey kt (aggI k) (entsS 0 m)).run P w = .ok (midxS k m) w := by
  obtain ⟨fs, hu, _, _⟩ := intsP_of hk.i
  rw [run_findKey_eq w (by rw [hu]), run_askS hk hn m 0 0 h]
  simp
theorem run_checkFlds {P : Program} {w : World} (em : Bool) (d : Nat) (k : List Int) : ∀ (fs : List Field) (j : Nat), fldsI P j fs = true → j + fs.length = k.length →
    ((forIn fs PUnit.unit fun (f : Field) (_ : PUnit) => (if f.name ≠ "_" then do let x ← part f.type (k.map int).toArray f.offset; Instr.checkKey em (d + 1) f.type x; pure (ForInStep.yield PUnit.unit) else pure (ForInStep.yield PUnit.unit) : Sem (ForInStep PUnit)))).run P w = .ok PUnit.unit w
  | [], j, _, _ => by simp
  | f :: fs, j, hf, h => by
    simp only [fldsI, fldI, Bool.and_eq_true, bne_iff_ne, ne_eq, beq_iff_eq] at hf
    obtain ⟨⟨⟨h3, h4⟩, h5⟩, h6⟩ := hf
    have hu : P.underlying f.type = some (.int .i64) := by
      split at h5
      · assumption
      · simp at h5
    have ih := run_checkFlds (w := w) em d k fs (j + 1) h6 (by simp at h; omega)
    have hk : j < k.length := by simp at h; omega
    have hp : (part f.type (k.map int).toArray f.offset).run P w = .ok (int k[j]) w := by
      have hag : aggP P f.type = some false := by simp [aggP, hu]
      simp [part, run_isAgg hag, h4, hk]
    have hc := run_checkKey (P := P) (w := w) (k := k[j]) em d hu
    rw [List.forIn_cons]
    simp only [h3, not_false_eq_true, if_true, ne_eq, bind_assoc, Sem.run_bind, hp, hc, Result.andThen_ok, pure_bind]
    exact ih
theorem run_checkS {P : Program} {w : World} {kt : TypeId} {n : Nat} {k : List Int} (hk : KeyS P kt n) (hn : k.length = n) (em : Bool) : (Instr.checkKey em 10000 kt (aggI k)).run P w = .ok () w := by
  obtain ⟨fs, hu, hs, hf⟩ := intsP_of hk.i
  have h := run_checkFlds (P := P) (w := w) em 9998 k fs.toList 0 hf (by simp [hs, hn])
  rw [show (10000 : Nat) = 9999 + 1 from rfl, Instr.checkKey]
  simp only [Sem.run_bind, run_underlying hu, Result.andThen_ok, ← Array.forIn_toList]
  rw [h]
  rfl
theorem run_lookupS {P : Program} {w : World} {t kt et : TypeId} {b n : Nat} {k : List Int} {l : List (List Int × Value)} {z : Value} {ok : Bool} (ht : P.underlying t = some (.map kt et)) (hk : KeyS P kt n) (hn : k.length = n) (hl : ∀ x ∈ l, x.1.length = n) (hz : zeroP P et = some z) (hg : w.heap[b]? = some (mapS l)) :
    (Instr.lookup t (.map (some b)) (aggI k) ok).run P w = .ok (if ok then .tuple #[(mgetS k l).getD z, .bool (mgetS k l).isSome] else (mgetS k l).getD z) w := by
  have hf := run_findS (P := P) (w := w) (k := k) hk hn hl
  have hc := fun e => run_checkS (P := P) (w := w) (k := k) hk hn e
  unfold mgetS
  cases hm : midxS k l with
  | none =>
    rw [hm] at hf
    simp [Instr.lookup, run_underlying ht, getObj, Sem.run, hg, mapS]
    simp [hc, hf, run_zeroValue hz]
  | some p =>
    rw [hm] at hf
    simp [Instr.lookup, run_underlying ht, getObj, Sem.run, hg, mapS]
    simp [hc, hf]
def MapAtS (N : Bs) (R H : List PH) (b : Nat) (l : List (List Int × Value)) : Prop := ∀ w, Sat N R H w → w.heap[b]? = some (mapS l)
theorem mapAtS_own {N : Bs} {b : Nat} {l : List (List Int × Value)} (m : Mem (sng b (mapS l)) H) : MapAtS N R H b l := fun w hs => hs.h _ m.mem b _ (sng_self b _)
theorem l_makeMapS {t : TypeId} : Loud C R H L ⟨dst, .makeMap t none, ty, pos, aft, g⟩ (fun v H' => ∃ b, v = .map (some b) ∧ H' = sng b (mapS []) :: H) := l_makeMap
theorem q_lookupS {x y : Operand} {t kt et : TypeId} {b : Nat} (n : Nat) (k : List Int) {l : List (List Int × Value)} {z : Value} (h : evalE L x = some (.map (some b))) (hk : evalE L y = some (aggI k)) (ht : C.P.underlying t = some (.map kt et)) (hkt : KeyS C.P kt n) (hn : k.length = n) (hl : ∀ x ∈ l, x.1.length = n) (hz : zeroP C.P et = some z) (hm : MapAtS C.N R H b l) :
    Quiet C R H L ⟨dst, .lookup t x y false, ty, pos, aft, g⟩ ((mgetS k l).getD z) :=
  ⟨by intro c; simp, fun a w hx hs => by
    have e1 := hx x (by simp [Op.operands]) _ h
    have e2 := hx y (by simp [Op.operands]) _ hk
    simp [execOp, e1, e2, run_lookupS (ok := false) ht hkt hn hl hz (hm w hs)]⟩
theorem sameBits_agg (k : List Int) : Instr.sameBits 10000 (aggI k) (aggI k) = true := by
  have h : ∀ l : List Int, ((l.map int).zip (l.map int)).all (fun p => Instr.sameBits 9999 p.1 p.2) = true := by
    intro l
    induction l with
    | nil => rfl
    | cons x l ih =>
      simp only [List.map_cons, List.zip_cons_cons, List.all_cons, ih, Bool.and_true]
      simp [Instr.sameBits]
  have h2 := h k
  simp only [aggI]
  unfold Instr.sameBits
  simp only [beq_self_eq_true, Bool.true_and]
  exact h2
theorem run_mapUpdateS {P : Program} {w : World} {t kt et : TypeId} {b n : Nat} {k : List Int} {v : Value} {l : List (List Int × Value)} (ht : P.underlying t = some (.map kt et)) (hkt : KeyS P kt n) (hn : k.length = n) (hl : ∀ x ∈ l, x.1.length = n) (hg : w.heap[b]? = some (mapS l)) :
    (Instr.mapUpdate t (.map (some b)) (aggI k) v).run P w = .ok () { w with heap := w.heap.setIfInBounds b (mapS (msetS k v l)) } := by
  have hf := run_findS (P := P) (w := w) (k := k) hkt hn hl
  have hc := fun e => run_checkS (P := P) (w := w) (k := k) hkt hn e
  cases hm : midxS k l with
  | none =>
    rw [hm] at hf
    obtain ⟨e, n⟩ := mset_noneS (k := k) (v := v) 0 hm
    have e2 : mapS (msetS k v l) = .map ((entsS 0 l).toArray.push ⟨aggI k, v, l.length⟩) (l.length + 1) := by
      unfold mapS; rw [n, ← e]; simp
    rw [e2]
    simp [Instr.mapUpdate, run_underlying ht, getObj, Sem.run, hg, mapS]
    simp [hc, hf, setObj, Sem.run, hg, mapS]
  | some p =>
    rw [hm] at hf
    obtain ⟨e, n, n2, n3⟩ := mset_someS (k := k) (v := v) 0 p.1 p.2 hm
    have e2 : mapS (msetS k v l) = .map ((entsS 0 l).toArray.modify p.1 (fun e => { e with key := aggI k, val := v })) l.length := by
      unfold mapS; rw [n, ← e]; simp
    rw [e2]
    have hks : (Instr.keyThatStays (aggI k) (aggI k)).run P w = .ok (aggI k) w := by simp [Instr.keyThatStays, sameBits_agg]
    simp [Instr.mapUpdate, run_underlying ht, getObj, Sem.run, hg, mapS]
    simp [hc, hf, setObj, Sem.run, n3, hks, hg, mapS]
theorem l_mapUpdateS {x y z : Operand} {t kt et : TypeId} {b : Nat} (n : Nat) (k : List Int) {v : Value} {l : List (List Int × Value)} {H' : List PH} (h : evalE L x = some (.map (some b))) (hk : evalE L y = some (aggI k)) (hv : evalE L z = some v) (ht : C.P.underlying t = some (.map kt et)) (hkt : KeyS C.P kt n) (hn : k.length = n) (hl : ∀ x ∈ l, x.1.length = n) (hm : Take (sng b (mapS l)) H H') :
    Loud C R H L ⟨dst, .mapUpdate t x y z, ty, pos, aft, g⟩ (fun u H2 => u = undef ∧ H2 = sng b (mapS (msetS k v l)) :: H') := by
  refine ⟨fun a w hx hs next Q hnx => ?_⟩
  have hg := hs.own hm
  have e1 := hx x (by simp [Op.operands]) _ h
  have e2 := hx y (by simp [Op.operands]) _ hk
  have e3 := hx z (by simp [Op.operands]) _ hv
  refine wpIn_skipv (w' := { w with heap := w.heap.setIfInBounds b (mapS (msetS k v l)) }) (by intro c; simp) ?_ (hnx _ _ _ ⟨rfl, rfl⟩ (hs.turn hm ?_ ?_ ?_))
  · simp [execOp, e1, e2, e3, run_mapUpdateS ht hkt hn hl hg]
  · simp
  · have : b < w.heap.size := by
      rw [Array.getElem?_eq_some_iff] at hg; exact hg.1
    simp [this]
  · intro k hk; simp [Array.getElem?_setIfInBounds, Ne.symm hk]
theorem msetS_len {k : List Int} {v : Value} {n : Nat} (hk : k.length = n) : ∀ {l : List (List Int × Value)}, (∀ x ∈ l, x.1.length = n) → ∀ x ∈ msetS k v l, x.1.length = n
  | [], _, x, hx => by simp [msetS] at hx; rw [hx]; exact hk
  | (a, w) :: l, h, x, hx => by
    unfold msetS at hx
    split at hx
    · rcases List.mem_cons.1 hx with rfl | hx
      · exact h (a, w) (by simp)
      · exact h x (by simp [hx])
    · rcases List.mem_cons.1 hx with rfl | hx
      · exact h (a, w) (by simp)
      · exact msetS_len hk (l := l) (fun y hy => h y (by simp [hy])) x hx
end Go.Eng
/- Flow. -/
namespace Go.Proofs.YtjbebmealbnmgaaGreat
open Go.Eng Go.Step
set_option maxRecDepth 100000
set_option maxHeartbeats 4000000

theorem used_next {x y : Sh} {M : List (List Int × Value)} {a : Bool} (h : mgetS [x.c, x.t] M = if a then some (.bool true) else none) : mgetS [x.c, x.t] (msetS [y.c, y.t] (.bool true) M) = if (a || sameSl x y) then some (.bool true) else none := by
  rw [mgetS_mset, h]
  unfold sameSl
  by_cases e : x.c = y.c ∧ x.t = y.t
  · rw [decide_eq_true e, Bool.or_true, if_pos rfl, if_pos (by rw [e.1, e.2])]
  · rw [decide_eq_false e, Bool.or_false, if_neg (fun k => e (by simpa using k))]
set_option maxHeartbeats 64000000 in
theorem certFlow_spec {ρ τ σ υ : PH} (ω : PH) {pq pc pb ph : Option Addr} {kq kc kb kh : Nat} {qs : List Int} {cs : List Ct} {bs : List Bk} {hs : List Hd} (hT : TbAt ρ τ σ υ pq pc pb ph kq kc kb kh qs cs bs hs) (d : Dm) (v : Value) (l : List Sh) (hv : ShAt ω v l) (hll : l.length ≤ 1000000) :
    Ans Tryz.prog (fv 16) [.agg #[.slice pq qs.length kq, .slice pc cs.length kc, .slice pb bs.length kb, .slice ph hs.length kh], .agg #[int d.s, int d.d, int d.v, int d.r, int d.e], v] [ρ, τ, σ, υ, ω] (fun r => r = .tuple #[int (flowR qs cs bs hs d l).1, int (flowR qs cs bs hs d l).2]) := by
  have hv2 := hv
  obtain ⟨q, cc, rfl, hr⟩ := hv.val encX_len
  refine spec_in (cap := []) Tryz.func16 rfl rfl Tryz.ntmps16 rfl (by (repeat (first | exact EnvA.nil EnvI.nil | apply EnvA.cons | apply EnvA.nil | exact EnvI.nil | apply EnvI.cons)); first | done | fail) (fun N β => ?_)
  refine jk_seq ?_
  refine jk_region ?_
  refine jk_op (l_boxS rfl) rfl rfl rfl ?_
  rintro _ _ ⟨b1, rfl, rfl⟩
  refine jk_freeze (ρ := sng b1 _) takeZ ?_
  have ct : RdN (sng b1 (.cells #[.slice pq qs.length kq, .slice pc cs.length kc, .slice pb bs.length kb, .slice ph hs.length kh] 29 (0, 0))) b1 0 [.slice pq qs.length kq, .slice pc cs.length kc, .slice pb bs.length kb, .slice ph hs.length kh] := rdN_sng (vs := [.slice pq qs.length kq, .slice pc cs.length kc, .slice pb bs.length kb, .slice ph hs.length kh])
  have ct0 : rdc (sng b1 (.cells #[.slice pq qs.length kq, .slice pc cs.length kc, .slice pb bs.length kb, .slice ph hs.length kh] 29 (0, 0))) b1 0 = some (.slice pq qs.length kq) := by rw [rdc_sng]; rfl
  have ct1 : rdc (sng b1 (.cells #[.slice pq qs.length kq, .slice pc cs.length kc, .slice pb bs.length kb, .slice ph hs.length kh] 29 (0, 0))) b1 1 = some (.slice pc cs.length kc) := by rw [rdc_sng]; rfl
  have ct2 : rdc (sng b1 (.cells #[.slice pq qs.length kq, .slice pc cs.length kc, .slice pb bs.length kb, .slice ph hs.length kh] 29 (0, 0))) b1 2 = some (.slice pb bs.length kb) := by rw [rdc_sng]; rfl
  have ct3 : rdc (sng b1 (.cells #[.slice pq qs.length kq, .slice pc cs.length kc, .slice pb bs.length kb, .slice ph hs.length kh] 29 (0, 0))) b1 3 = some (.slice ph hs.length kh) := by rw [rdc_sng]; rfl
  have ctp : RdP (sng b1 (.cells #[.slice pq qs.length kq, .slice pc cs.length kc, .slice pb bs.length kb, .slice ph hs.length kh] 29 (0, 0))) b1 0 [.slice pq qs.length kq, .slice pc cs.length kc] := rdP_sng (xs := [.slice pq qs.length kq, .slice pc cs.length kc, .slice pb bs.length kb, .slice ph hs.length kh]) rfl
  refine jk_op (l_boxS rfl) rfl rfl rfl ?_
  rintro _ _ ⟨b2, rfl, rfl⟩
  refine jk_freeze (ρ := sng b2 _) takeZ ?_
  have cd : RdN (sng b2 (.cells #[int d.s, int d.d, int d.v, int d.r, int d.e] 31 (0, 0))) b2 0 [int d.s, int d.d, int d.v, int d.r, int d.e] := rdN_sng (vs := [int d.s, int d.d, int d.v, int d.r, int d.e])
  have cd0 : rdc (sng b2 (.cells #[int d.s, int d.d, int d.v, int d.r, int d.e] 31 (0, 0))) b2 0 = some (int d.s) := by rw [rdc_sng]; rfl
  have cd1 : rdc (sng b2 (.cells #[int d.s, int d.d, int d.v, int d.r, int d.e] 31 (0, 0))) b2 1 = some (int d.d) := by rw [rdc_sng]; rfl
  have cd2 : rdc (sng b2 (.cells #[int d.s, int d.d, int d.v, int d.r, int d.e] 31 (0, 0))) b2 2 = some (int d.v) := by rw [rdc_sng]; rfl
  have cd3 : rdc (sng b2 (.cells #[int d.s, int d.d, int d.v, int d.r, int d.e] 31 (0, 0))) b2 3 = some (int d.r) := by rw [rdc_sng]; rfl
  have cd4 : rdc (sng b2 (.cells #[int d.s, int d.d, int d.v, int d.r, int d.e] 31 (0, 0))) b2 4 = some (int d.e) := by rw [rdc_sng]; rfl
  refine zq_assign ?_
  refine zq_assign ?_
  refine jk_nil ?_
  refine jk_seq ?_
  refine jk_seq ?_
  refine jk_region ?_
  refine zq_loadS ?_
  refine zq_loadS ?_
  refine jk_call (certCheck_spec hT d) rfl rfl rdZ rfl rfl ?_
  rintro _ rfl
  cases hval : validT qs cs bs hs d with
  | false =>
    have hR : flowR qs cs bs hs d l = (0, 1) := by unfold flowR; rw [if_pos hval]
    rw [hR, if_neg (by simp)]
    refine zq_assign ?_
    refine jk_nil ?_
    refine jk_seq ?_
    refine jk_region ?_
    refine zq_move ?_
    refine zq_ne ?_
    refine jk_nil ?_
    refine jk_if_t rfl ?_
    refine jk_seq ?_
    refine jk_region ?_
    refine zq_move ?_
    refine zq_assign ?_
    refine zq_assign ?_
    refine jk_nil ?_
    exact jk_ret_any (res2 rfl rfl rfl) (by (repeat (first | exact rs_nil | (refine rs_cons ?_ ?_; (focus ((repeat (first | exact .here | apply Mem.there | apply Take.there)); first | done | fail))) | exact fun ρ hρ => hρ | (intro ρ hρ; repeat (first | exact hρ | refine List.mem_cons_of_mem _ ?_)))); first | done | fail) selZ ⟨rfl, rfl⟩
  | true =>
  rw [if_pos rfl]
  obtain ⟨hcs0, hbl, hok, hhl, hql, hquo, hdm, _⟩ := valid_ok hval
  have hcs : ∀ c ∈ cs, chkCt c = 0 := fun c hc => (hcs0 c hc).1
  have hdm2 : 0 ≤ d.r ∧ d.r < d.e ∧ d.e ≤ 1099511627776 ∧ d.e - d.r ≤ 100 := hdm.2.2.2.2
  refine zq_assign ?_
  refine jk_nil ?_
  refine jk_seq ?_
  refine jk_region ?_
  refine zq_move ?_
  refine zq_neF ?_
  refine jk_nil ?_
  refine jk_if_f rfl ?_
  refine jk_skip ?_
  refine jk_seq ?_
  refine jk_region ?_
  focus ((refine' jk_op _ rfl rfl rfl _; rotate_left; (exact l_makeMapS); rintro _ _ ⟨b, rfl, rfl⟩))
  refine zq_assign ?_
  refine jk_nil ?_
  refine jk_seq ?_
  refine jk_seq ?_
  refine jk_region ?_
  refine zq_move ?_
  refine zq_len ?_
  refine zq_move ?_
  refine jk_nil ?_
  refine jk_block ?_
  revert b; intro bm
  refine jk_loop [2, 3, 4, 9, 30, 31] (X := Nat × List (List Int × Value)) (0, []) (fun x => x.1 ≤ l.length ∧ firstE (shipE cs bs d l) x.1 = 0 ∧ (∀ e ∈ x.2, e.1.length = 2) ∧ ∀ y : Sh, mgetS [y.c, y.t] x.2 = if (l.take x.1).any (sameSl y) then some (.bool true) else none) (fun x => [(32, int x.1)]) (fun x => [sng bm (mapS x.2)]) (fun x => l.length - x.1) pickZ ⟨by dsimp only; omega, rfl, by simp, fun y => rfl⟩ covZ selZ ?_
  rintro ⟨k, M⟩ ⟨hk, hI, hM2, hM⟩
  dsimp only at hk hI hM2 hM ⊢
  by_cases hlt : k < l.length
  · have hx := List.getElem?_eq_getElem hlt
    have hnx := fun y => any_take (sameSl y) hlt
    obtain ⟨b5, o5, rfl, hrx, x0, x1, x2⟩ := shRow hr hx
    have hgood := shipE_good (bs := bs) (cs := cs) (d := d) hx
    have hbad := fun e => shipE_bad (bs := bs) (cs := cs) (d := d) (e := e) hx
    generalize l[k] = x at hrx x0 x1 x2 hnx hgood hbad
    have hck := checkShip_spec hT d x hcs (by omega) hdm2.1
    refine jk_seq ?_
    refine jk_region ?_
    refine zq_lt ?_
    refine jk_nil ?_
    refine jk_seq ?_
    refine jk_if_t rfl ?_
    refine jk_skip ?_
    refine jk_seq ?_
    refine jk_block ?_
    refine jk_seq ?_
    refine jk_region ?_
    refine zq_idxN ?_
    refine zq_loadS ?_
    refine zl_allocS ?_; rintro _ _ ⟨b, rfl, rfl⟩
    refine zs_storeS ?_; rintro _ _ ⟨rfl, rfl⟩
    refine jk_nil ?_
    refine jk_seq ?_
    refine jk_seq ?_
    refine jk_region ?_
    refine zq_loadS ?_
    refine zq_loadS ?_
    refine zq_loadS ?_
    refine jk_call hck rfl rfl rdZ rfl rfl ?_
    rintro _ rfl
    by_cases h1 : ship1 cs bs d x = 0
    rotate_left
    · have hE := hbad _ rfl h1
      have hh := firstE_hit hI (by rw [hE]; exact h1) _ hlt
      have hR : flowR qs cs bs hs d l = (0, ship1 cs bs d x) := by unfold flowR; rw [if_neg (by rw [hval]; simp), hh, hE, if_pos h1]
      rw [hR]
      generalize ship1 cs bs d x = z at h1
      refine zq_assign ?_
      refine jk_nil ?_
      refine jk_seq ?_
      refine jk_region ?_
      refine zq_move ?_
      refine zq_ne ?_
      refine jk_nil ?_
      refine jk_if_t rfl ?_
      refine jk_seq ?_
      refine jk_region ?_
      refine zq_move ?_
      refine zq_assign ?_
      refine zq_assign ?_
      refine jk_nil ?_
      exact jk_ret_any (res2 rfl rfl rfl) (by (repeat (first | exact rs_nil | (refine rs_cons ?_ ?_; (focus ((repeat (first | exact .here | apply Mem.there | apply Take.there)); first | done | fail))) | exact fun ρ hρ => hρ | (intro ρ hρ; repeat (first | exact hρ | refine List.mem_cons_of_mem _ ?_)))); first | done | fail) selZ ⟨rfl, rfl⟩
    have hE := hgood h1
    rw [h1]
    refine zq_assign ?_
    refine jk_nil ?_
    refine jk_seq ?_
    refine jk_region ?_
    refine zq_move ?_
    refine zq_neF ?_
    refine jk_nil ?_
    refine jk_if_f rfl ?_
    refine jk_skip ?_
    refine jk_seq ?_
    refine jk_region ?_
    refine zq_fld0 ?_
    refine zq_load ?_
    refine zq_fld0 ?_
    refine zq_load ?_
    refine zq_build ?_
    refine zl_allocS ?_; rintro _ _ ⟨b, rfl, rfl⟩
    refine zs_storeS ?_; rintro _ _ ⟨rfl, rfl⟩
    refine jk_nil ?_
    refine jk_seq ?_
    refine jk_region ?_
    refine zq_move ?_
    refine zq_loadS ?_
    refine jk_q (q_lookupS 2 [x.c, x.t] (l := M) (z := .bool false) rfl rfl rfl ⟨by kernel_rfl, by kernel_rfl⟩ rfl hM2 rfl (mapAtS_own memZ)) rfl rfl rfl ?_
    rw [hM x]
    cases hany : (l.take k).any (sameSl x) with
    | true =>
      rw [hany, if_pos rfl] at hE
      have hh := firstE_hit hI (by rw [hE]; decide) _ hlt
      have hR : flowR qs cs bs hs d l = (0, 14) := by unfold flowR; rw [if_neg (by rw [hval]; simp), hh, hE, if_pos (by decide)]
      rw [hR, if_pos rfl, Option.getD_some]
      refine jk_nil ?_
      refine jk_if_t rfl ?_
      refine jk_seq ?_
      refine jk_region ?_
      refine zq_assign ?_
      refine zq_assign ?_
      refine jk_nil ?_
      exact jk_ret_any (res2 rfl rfl rfl) (by (repeat (first | exact rs_nil | (refine rs_cons ?_ ?_; (focus ((repeat (first | exact .here | apply Mem.there | apply Take.there)); first | done | fail))) | exact fun ρ hρ => hρ | (intro ρ hρ; repeat (first | exact hρ | refine List.mem_cons_of_mem _ ?_)))); first | done | fail) selZ ⟨rfl, rfl⟩
    | false =>
      rw [hany, if_neg (by simp)] at hE
      rw [if_neg (by simp), Option.getD_none]
      refine jk_nil ?_
      refine jk_if_f rfl ?_
      refine jk_region ?_
      refine zq_move ?_
      refine zq_loadS ?_
      refine jk_op_none (l_mapUpdateS 2 [x.c, x.t] (v := .bool true) (l := M) rfl rfl rfl rfl ⟨by kernel_rfl, by kernel_rfl⟩ rfl hM2 takeZ) rfl rfl ?_
      rintro _ _ ⟨rfl, rfl⟩
      refine jk_nil ?_
      refine jk_blk ?_
      refine jk_region ?_
      refine zq_inc ?_
      refine zq_move ?_
      refine jk_nil ?_
      refine jk_round (k + 1, _) ⟨by dsimp only; omega, firstE_ok hI hE, msetS_len rfl hM2, fun y => ?_⟩ (by dsimp only; omega) covZ selZ
      dsimp only
      rw [hnx y]
      exact used_next (hM y)
  have hke : k = l.length := by omega
  subst hke
  have hS := ships_ok hI
  have hR0 : flowR qs cs bs hs d l = if conflB qs.length cs d l then (0, 24) else if fullB qs cs hs d l then (0, 15) else (stock cs d d.d d.e l, 0) := by unfold flowR; rw [if_neg (by rw [hval]; simp), if_neg (fun h => h hI)]
  clear hI hM hM2
  have hbdx : ∀ x ∈ l, 0 ≤ x.n ∧ x.n ≤ 1000 := fun x hx => by
    obtain ⟨nn, c, _, h2, _, h4, _⟩ := ship1_ok (hS x hx)
    have := (chkCt_all (hcs c (List.mem_of_getElem? h2))).2.2.2.1
    omega
  have hbd := fun n t => stock_bd cs d n t l hbdx
  have hstk := stocks_spec ω hT d _ l hv2 hS hcs0 hdm2 hql.2 hll
  obtain ⟨m, hm⟩ : ∃ m : Nat, d.e - d.r + 1 = (m : Int) := ⟨(d.e - d.r + 1).toNat, by omega⟩
  rw [hm, Int.toNat_natCast] at hstk
  refine jk_seq ?_
  refine jk_region ?_
  refine zq_ltF ?_
  refine jk_nil ?_
  refine jk_seq ?_
  refine jk_if_f rfl ?_
  refine jk_exit rfl ?_
  refine jk_seq ?_
  refine jk_region ?_
  refine zq_loadS ?_
  refine zq_loadS ?_
  refine zq_move ?_
  refine jk_callH hstk rfl rfl Takes.nil rdZ rfl rfl ?_
  rintro _ _ ⟨B, γ, bsr, rfl, rfl, hTab⟩
  refine jk_freeze (ρ := sng B _) takeZ ?_
  refine jk_freeze (ρ := γ) takeZ ?_
  have hbl2 : bsr.length = qs.length := by rw [hTab.len, tabC_len]
  have hrow : ∀ n, n < qs.length → ∃ br, rdc (sng B (.cells (rowsV m bsr).toArray 22 (0, 0))) B n = some (.slice (some ⟨br, 0, none⟩) m m) ∧ IntsAt γ (.slice (some ⟨br, 0, none⟩) m m) (rowC m (fun k => stock cs d n (d.r + k) l)) ∧ ∀ k, k < m → rdc γ br k = some (int (stock cs d n (d.r + k) l)) := fun n hn => by
    have hbr := List.getElem?_eq_getElem (show n < bsr.length by omega)
    have hrw := tabC_get (d := d) (m := m) (l := chAll cs l) hn
    have e : rowC m (fun k => chS d n k (chAll cs l)) = rowC m (fun k => stock cs d n (d.r + k) l) := rowC_congr (fun k _ => chS_stock cs d n k l)
    rw [e] at hrw
    refine ⟨bsr[n], ?_, ?_, fun k hk => hTab.cell hbr hrw (rowC_get hk)⟩
    · rw [rdc_sng]
      simp [rowsV, hbr]
    · have := hTab.ints (c := m) hbr hrw
      rw [rowC_len] at this
      exact this
  obtain ⟨la, hla⟩ : ∃ la : Nat, d.e - d.r = (la : Int) := ⟨(d.e - d.r).toNat, by omega⟩
  have hml : m = la + 1 := by omega
  have hend : d.r + (la : Int) = d.e := by omega
  have hmt : (d.e - d.r + 1).toNat = m := by omega
  have hlt3 : (d.e - d.r).toNat = la := by omega
  refine zq_assign ?_
  refine jk_nil ?_
  refine jk_seq ?_
  refine jk_region ?_
  refine zq_fld0 ?_
  refine zq_load ?_
  refine zq_fld0 ?_
  refine zq_load ?_
  refine zq_sub ?_
  refine zq_assign ?_
  refine jk_nil ?_
  refine jk_seq ?_
  refine jk_region ?_
  refine zq_makeFunc ?_
  refine zq_assign ?_
  refine jk_nil ?_
  refine jk_seq ?_
  refine jk_seq ?_
  refine jk_region ?_
  refine zq_move ?_
  refine zq_len ?_
  refine zq_move ?_
  refine jk_nil ?_
  refine jk_block ?_
  rw [hla]
  refine jk_loop [3, 4, 14, 15, 16, 64, 65] (0 : Nat) (fun n => n ≤ qs.length ∧ anyT (fun n => anyT (confAt cs d l n) d.r m) 0 n = false) (fun n => [(66, int n)]) (fun _ => []) (fun n => qs.length - n) pickZ ⟨by omega, by rfl⟩ covZ Sel.nil ?_
  rintro n ⟨hn, hIn⟩
  by_cases hnq : n < qs.length
  · obtain ⟨br, gB, hints, hcell⟩ := hrow n hnq
    have hconf := conf_row cs d l n m hm hdm2.2.1
    have hyes : anyT (confAt cs d l n) d.r m = true → flowR qs cs bs hs d l = (0, 24) := fun h => by
      rw [hR0, if_pos]
      unfold conflB
      rw [hmt]
      refine anyT_hit (k := n) hnq ?_
      rw [show (0 : Int) + (n : Int) = n by omega]
      exact h
    have hnx := anyT_succ (fun n => anyT (confAt cs d l n) d.r m) 0 n
    rw [hIn, Bool.false_or, show (0 : Int) + (n : Int) = n by omega] at hnx
    have hcl := hcell la (by omega)
    rw [hend] at hcl
    have hmin := minI_spec γ _ _ hints (by rw [rowC_len]; omega) (by rw [rowC_len]; omega)
    refine jk_seq ?_
    refine jk_region ?_
    refine zq_lt ?_
    refine jk_nil ?_
    refine jk_seq ?_
    refine jk_if_t rfl ?_
    refine jk_skip ?_
    refine jk_seq ?_
    refine jk_block ?_
    refine jk_seq ?_
    refine jk_region ?_
    refine zq_move ?_
    refine zq_idx0 ?_
    refine zq_load ?_
    refine zq_assign ?_
    refine zq_assign ?_
    refine jk_nil ?_
    refine jk_seq ?_
    refine jk_region ?_
    refine zq_move ?_
    refine jk_call hmin rfl rfl rdZ rfl rfl ?_
    rintro _ ⟨z, rfl, hz⟩
    by_cases hz0 : z < 0
    · rw [hyes (hconf.2 (.inl (hz.1 hz0)))]
      refine zq_lt ?_
      refine zq_move ?_
      refine jk_pass rfl rfl rfl ?_
      refine jk_pass rfl rfl rfl ?_
      refine jk_pass rfl rfl rfl ?_
      refine jk_pass rfl rfl rfl ?_
      refine jk_pass rfl rfl rfl ?_
      refine jk_pass rfl rfl rfl ?_
      refine jk_pass rfl rfl rfl ?_
      refine jk_pass rfl rfl rfl ?_
      refine jk_pass rfl rfl rfl ?_
      refine jk_pass rfl rfl rfl ?_
      refine zq_pick_t ?_
      refine jk_nil ?_
      refine jk_if_t rfl ?_
      refine jk_seq ?_
      refine jk_region ?_
      refine zq_assign ?_
      refine zq_assign ?_
      refine jk_nil ?_
      exact jk_ret_any (res2 rfl rfl rfl) (by (repeat (first | exact rs_nil | (refine rs_cons ?_ ?_; (focus ((repeat (first | exact .here | apply Mem.there | apply Take.there)); first | done | fail))) | exact fun ρ hρ => hρ | (intro ρ hρ; repeat (first | exact hρ | refine List.mem_cons_of_mem _ ?_)))); first | done | fail) selZ ⟨rfl, rfl⟩
    by_cases hbt : (n : Int) ≠ d.s ∧ (n : Int) ≠ d.d
    · have hB := decide_eq_true hbt
      by_cases hst0 : stock cs d n d.e l = 0
      · have hno : anyT (confAt cs d l n) d.r m = false := by
          rw [← Bool.not_eq_true]
          intro h
          rcases hconf.1 h with h | h
          · exact hz0 (hz.2 h)
          · exact h.2.2 hst0
        rw [hno] at hnx
        generalize stock cs d n d.e l = S at hcl hst0
        refine zq_ltF ?_
        refine zq_move ?_
        refine zq_move ?_
        refine zq_move ?_
        focus ((refine jk_call (between_spec b2 d _) rfl rfl rdZ rfl rfl ?_; rintro _ rfl; rw [hB]))
        refine zq_move ?_
        refine zq_move ?_
        refine zq_move ?_
        refine zq_idx0 ?_
        refine zq_load ?_
        refine zq_neF ?_
        refine zq_pick_t ?_
        refine zq_pick_f ?_
        refine jk_nil ?_
        refine jk_if_f rfl ?_
        refine jk_skip ?_
        refine jk_blk ?_
        refine jk_region ?_
        refine zq_inc ?_
        refine zq_move ?_
        refine jk_nil ?_
        exact jk_round (n + 1) ⟨by omega, hnx⟩ (by omega) covZ selZ
      · rw [hyes (hconf.2 (.inr ⟨hbt.1, hbt.2, hst0⟩))]
        generalize stock cs d n d.e l = S at hcl hst0
        refine zq_ltF ?_
        refine zq_move ?_
        refine zq_move ?_
        refine zq_move ?_
        focus ((refine jk_call (between_spec b2 d _) rfl rfl rdZ rfl rfl ?_; rintro _ rfl; rw [hB]))
        refine zq_move ?_
        refine zq_move ?_
        refine zq_move ?_
        refine zq_idx0 ?_
        refine zq_load ?_
        refine zq_ne ?_
        refine zq_pick_t ?_
        refine zq_pick_f ?_
        refine jk_nil ?_
        refine jk_if_t rfl ?_
        refine jk_seq ?_
        refine jk_region ?_
        refine zq_assign ?_
        refine zq_assign ?_
        refine jk_nil ?_
        exact jk_ret_any (res2 rfl rfl rfl) (by (repeat (first | exact rs_nil | (refine rs_cons ?_ ?_; (focus ((repeat (first | exact .here | apply Mem.there | apply Take.there)); first | done | fail))) | exact fun ρ hρ => hρ | (intro ρ hρ; repeat (first | exact hρ | refine List.mem_cons_of_mem _ ?_)))); first | done | fail) selZ ⟨rfl, rfl⟩
    · have hB := decide_eq_false hbt
      have hno : anyT (confAt cs d l n) d.r m = false := by
        rw [← Bool.not_eq_true]
        intro h
        rcases hconf.1 h with h | h
        · exact hz0 (hz.2 h)
        · exact hbt ⟨h.1, h.2.1⟩
      rw [hno] at hnx
      refine zq_ltF ?_
      refine zq_move ?_
      refine zq_move ?_
      refine zq_move ?_
      focus ((refine jk_call (between_spec b2 d _) rfl rfl rdZ rfl rfl ?_; rintro _ rfl; rw [hB]))
      refine zq_move ?_
      refine jk_pass rfl rfl rfl ?_
      refine jk_pass rfl rfl rfl ?_
      refine jk_pass rfl rfl rfl ?_
      refine jk_pass rfl rfl rfl ?_
      refine jk_pass rfl rfl rfl ?_
      refine zq_pick_f ?_
      refine zq_pick_f ?_
      refine jk_nil ?_
      refine jk_if_f rfl ?_
      refine jk_skip ?_
      refine jk_blk ?_
      refine jk_region ?_
      refine zq_inc ?_
      refine zq_move ?_
      refine jk_nil ?_
      exact jk_round (n + 1) ⟨by omega, hnx⟩ (by omega) covZ selZ
  have hne : n = qs.length := by omega
  subst hne
  have hconf0 : conflB qs.length cs d l = false := by unfold conflB; rw [hmt]; exact hIn
  rw [hconf0, if_neg (by simp)] at hR0
  clear hIn
  refine jk_seq ?_
  refine jk_region ?_
  refine zq_ltF ?_
  refine jk_nil ?_
  refine jk_seq ?_
  refine jk_if_f rfl ?_
  refine jk_exit rfl ?_
  refine jk_seq ?_
  refine jk_seq ?_
  refine jk_region ?_
  refine zq_move ?_
  refine zq_len ?_
  refine zq_move ?_
  refine jk_nil ?_
  refine jk_block ?_
  refine jk_loop [3, 4, 14, 15, 16, 87, 88] (0 : Nat) (fun n => n ≤ qs.length ∧ anyT (fun n => anyT (fullAt qs cs hs d l n) d.r la) 0 n = false) (fun n => [(89, int n)]) (fun _ => []) (fun n => qs.length - n) pickZ ⟨by omega, by rfl⟩ covZ selZ ?_
  rintro n ⟨hn, hIn⟩
  by_cases hnq : n < qs.length
  · obtain ⟨br, gB, hints, hcell⟩ := hrow n hnq
    have hQx := List.getElem?_eq_getElem hnq
    have hroom := fun t => certRoom_spec hT n t _ hQx (hquo n _ hQx) hok (by omega)
    refine jk_seq ?_
    refine jk_region ?_
    refine zq_lt ?_
    refine jk_nil ?_
    refine jk_seq ?_
    refine jk_if_t rfl ?_
    refine jk_skip ?_
    refine jk_seq ?_
    refine jk_block ?_
    refine jk_seq ?_
    refine jk_region ?_
    refine zq_move ?_
    refine zq_idx0 ?_
    refine zq_load ?_
    refine zq_assign ?_
    refine zq_assign ?_
    refine jk_nil ?_
    refine jk_seq ?_
    refine jk_region ?_
    refine zq_move ?_
    refine zq_move ?_
    refine zq_cutHi ?_
    refine zq_len ?_
    refine zq_move ?_
    refine jk_nil ?_
    refine jk_block ?_
    rw [cutP_zero]
    refine jk_loop [3, 4, 14, 15, 16, 19, 87, 88, 89, 96, 97] (0 : Nat) (fun j => j ≤ la ∧ anyT (fullAt qs cs hs d l n) d.r j = false) (fun j => [(98, int j)]) (fun _ => []) (fun j => la - j) pickZ ⟨by omega, by rfl⟩ covZ selZ ?_
    rintro j ⟨hj, hIj⟩
    by_cases hjl : j < la
    · have hnx := anyT_succ (fullAt qs cs hs d l n) d.r j
      rw [hIj, Bool.false_or] at hnx
      have hcl := hcell j (by omega)
      have hb2 := hbd n (d.r + j)
      have hyes : fullAt qs cs hs d l n (d.r + j) = true → flowR qs cs bs hs d l = (0, 15) := fun h => by
        rw [hR0, if_pos]
        unfold fullB
        rw [hlt3]
        refine anyT_hit (k := n) hnq ?_
        rw [show (0 : Int) + (n : Int) = n by omega]
        exact anyT_hit (k := j) hjl h
      have hroom2 := hroom (d.r + j)
      have hfe : fullAt qs cs hs d l n (d.r + j) = decide ((if (n : Int) = d.s ∨ (n : Int) = d.d then 1099511627776 else qs.getD (n : Int).toNat 0 - Step.stored hs n (d.r + j)) < stock cs d n (d.r + j) l) := rfl
      rw [hfe] at hnx hyes
      by_cases hbt : (n : Int) ≠ d.s ∧ (n : Int) ≠ d.d
      · have hB := decide_eq_true hbt
        rw [if_neg (by omega), Int.toNat_natCast, List.getD_eq_getElem?_getD, hQx, Option.getD_some] at hnx hyes
        generalize stock cs d n (d.r + j) l = S at hcl hb2 hnx hyes
        generalize qs[n] - Step.stored hs n (d.r + j) = Rm at hroom2 hnx hyes
        refine jk_seq ?_
        refine jk_region ?_
        refine zq_lt ?_
        refine jk_nil ?_
        refine jk_seq ?_
        refine jk_if_t rfl ?_
        refine jk_skip ?_
        refine jk_seq ?_
        refine jk_block ?_
        refine jk_seq ?_
        refine jk_region ?_
        refine zq_move ?_
        refine zq_idx0 ?_
        refine zq_load ?_
        refine zq_assign ?_
        refine zq_assign ?_
        refine jk_nil ?_
        refine jk_seq ?_
        refine jk_region ?_
        refine zq_move ?_
        refine zq_move ?_
        focus ((refine jk_call (between_spec b2 d _) rfl rfl rdZ rfl rfl ?_; rintro _ rfl; rw [hB]))
        refine zq_move ?_
        refine zq_move ?_
        refine zq_loadS ?_
        refine zq_move ?_
        refine zq_fld0 ?_
        refine zq_load ?_
        refine zq_move ?_
        refine zq_add ?_
        refine jk_call hroom2 rfl rfl rdZ rfl rfl ?_
        rintro _ rfl
        by_cases c1 : Rm < S
        · rw [hyes (decide_eq_true c1)]
          refine zq_gt ?_
          refine zq_pick_t ?_
          refine jk_nil ?_
          refine jk_if_t rfl ?_
          refine jk_seq ?_
          refine jk_region ?_
          refine zq_assign ?_
          refine zq_assign ?_
          refine jk_nil ?_
          exact jk_ret_any (res2 rfl rfl rfl) (by (repeat (first | exact rs_nil | (refine rs_cons ?_ ?_; (focus ((repeat (first | exact .here | apply Mem.there | apply Take.there)); first | done | fail))) | exact fun ρ hρ => hρ | (intro ρ hρ; repeat (first | exact hρ | refine List.mem_cons_of_mem _ ?_)))); first | done | fail) selZ ⟨rfl, rfl⟩
        · rw [decide_eq_false c1] at hnx
          refine zq_gtF ?_
          refine zq_pick_t ?_
          refine jk_nil ?_
          refine jk_if_f rfl ?_
          refine jk_skip ?_
          refine jk_blk ?_
          refine jk_region ?_
          refine zq_inc ?_
          refine zq_move ?_
          refine jk_nil ?_
          exact jk_round (j + 1) ⟨by omega, hnx⟩ (by omega) covZ selZ
      · have hB := decide_eq_false hbt
        rw [if_pos (by omega), decide_eq_false (by omega)] at hnx
        generalize stock cs d n (d.r + j) l = S at hcl hb2
        refine jk_seq ?_
        refine jk_region ?_
        refine zq_lt ?_
        refine jk_nil ?_
        refine jk_seq ?_
        refine jk_if_t rfl ?_
        refine jk_skip ?_
        refine jk_seq ?_
        refine jk_block ?_
        refine jk_seq ?_
        refine jk_region ?_
        refine zq_move ?_
        refine zq_idx0 ?_
        refine zq_load ?_
        refine zq_assign ?_
        refine zq_assign ?_
        refine jk_nil ?_
        refine jk_seq ?_
        refine jk_region ?_
        refine zq_move ?_
        refine zq_move ?_
        focus ((refine jk_call (between_spec b2 d _) rfl rfl rdZ rfl rfl ?_; rintro _ rfl; rw [hB]))
        refine zq_move ?_
        refine jk_pass rfl rfl rfl ?_
        refine jk_pass rfl rfl rfl ?_
        refine jk_pass rfl rfl rfl ?_
        refine jk_pass rfl rfl rfl ?_
        refine jk_pass rfl rfl rfl ?_
        refine jk_pass rfl rfl rfl ?_
        refine jk_pass rfl rfl rfl ?_
        refine jk_pass rfl rfl rfl ?_
        refine jk_pass rfl rfl rfl ?_
        refine zq_pick_f ?_
        refine jk_nil ?_
        refine jk_if_f rfl ?_
        refine jk_skip ?_
        refine jk_blk ?_
        refine jk_region ?_
        refine zq_inc ?_
        refine zq_move ?_
        refine jk_nil ?_
        exact jk_round (j + 1) ⟨by omega, hnx⟩ (by omega) covZ selZ
    · have hje : j = la := by omega
      subst hje
      have hnx := anyT_succ (fun n => anyT (fullAt qs cs hs d l n) d.r j) 0 n
      rw [hIn, Bool.false_or, show (0 : Int) + (n : Int) = n by omega, hIj] at hnx
      refine jk_seq ?_
      refine jk_region ?_
      refine zq_ltF ?_
      refine jk_nil ?_
      refine jk_seq ?_
      refine jk_if_f rfl ?_
      refine jk_exit rfl ?_
      refine jk_blk ?_
      refine jk_region ?_
      refine zq_inc ?_
      refine zq_move ?_
      refine jk_nil ?_
      exact jk_round (n + 1) ⟨by omega, hnx⟩ (by omega) covZ selZ
  have hne : n = qs.length := by omega
  subst hne
  have hfull0 : fullB qs cs hs d l = false := by unfold fullB; rw [hlt3]; exact hIn
  rw [hfull0, if_neg (by simp)] at hR0
  rw [hR0]
  have hdd0 := hdm.2.1
  obtain ⟨dd, hdd⟩ : ∃ dd : Nat, d.d = dd := ⟨d.d.toNat, by omega⟩
  obtain ⟨br, gB, hints, hcell⟩ := hrow dd (by omega)
  have hcl := hcell la (by omega)
  rw [hend, ← hdd] at hcl
  have cdn : rdc (sng b2 (.cells #[int d.s, int d.d, int d.v, int d.r, int d.e] 31 (0, 0))) b2 1 = some (int dd) := by rw [rdc_sng, ← hdd]; rfl
  clear cd1
  refine jk_seq ?_
  refine jk_region ?_
  refine zq_ltF ?_
  refine jk_nil ?_
  refine jk_seq ?_
  refine jk_if_f rfl ?_
  refine jk_exit rfl ?_
  refine jk_seq ?_
  refine jk_region ?_
  refine zq_move ?_
  refine zq_fld0 ?_
  refine zq_load ?_
  refine zq_idx0 ?_
  refine zq_load ?_
  refine zq_move ?_
  refine zq_idx0 ?_
  refine zq_load ?_
  refine zq_assign ?_
  refine zq_assign ?_
  refine jk_nil ?_
  exact jk_ret_any (res2 rfl rfl rfl) (by (repeat (first | exact rs_nil | (refine rs_cons ?_ ?_; (focus ((repeat (first | exact .here | apply Mem.there | apply Take.there)); first | done | fail))) | exact fun ρ hρ => hρ | (intro ρ hρ; repeat (first | exact hρ | refine List.mem_cons_of_mem _ ?_)))); first | done | fail) selZ ⟨rfl, rfl⟩
end Go.Proofs.YtjbebmealbnmgaaGreat
/- Answers checked; results that are structs in memory; sums that wrap. No program in sight. No conditions. -/
namespace Go.Step
/-- why an answer is not proved -/
def checkR (qs : List Int) (cs : List Ct) (bs : List Bk) (hs : List Hd) (d : Dm) (acc : Bool) (vol : Int) (l : List Sh) (c : Cu) : Int :=
  if acc then (if (flowR qs cs bs hs d l).2 ≠ 0 then (flowR qs cs bs hs d l).2 else if (flowR qs cs bs hs d l).1 ≠ d.v ∨ vol ≠ d.v ∨ 0 < c.length then 26 else 0)
  else (if (capR qs cs bs hs d c).2 ≠ 0 then (capR qs cs bs hs d c).2 else if (capR qs cs bs hs d c).1 ≠ vol ∨ d.v ≤ (capR qs cs bs hs d c).1 ∨ 0 < l.length then 26 else 0)
def greatC (c : Cu) : Bool := decide (8 < c.length) || c.any (fun l => decide (20 < l.length))
theorem greatC_len {c : Cu} (h : greatC c = false) : c.length ≤ 8 ∧ ∀ l ∈ c, l.length ≤ 20 := by
  unfold greatC at h
  rw [Bool.or_eq_false_iff, decide_eq_false_iff_not, List.any_eq_false] at h
  exact ⟨by omega, fun l hl => by have := h.2 l hl; simp at this; omega⟩
end Go.Step
namespace Go.Eng
open Go.IntWalk
variable {R H : List PH} {L : Env}
theorem resS2 {fn : Func} {N : Bs} {M : Nat} {P : Program} {t u b1 b2 : Nat} {T U : TypeId} {v1 v2 : List Value} (hr : fn.results = #[.cell t T, .cell u U]) (ht : look L t = some (.pointer (some ⟨b1, 0, none⟩))) (hu : look L u = some (.pointer (some ⟨b2, 0, none⟩))) (a1 : aggP P T = some true) (a2 : aggP P U = some true)
    (n1 : szP P T = some v1.length) (n2 : szP P U = some v2.length) (c1 : Cells N R H b1 0 v1) (c2 : Cells N R H b2 0 v2) : ∀ a w, Frm M L a → Sat N R H w → (results fn a.tmps).run P w = .ok (.tuple #[.agg v1.toArray, .agg v2.toArray]) w := by
  intro a w hf hs
  have e1 : a.tmps[t]?.getD undef = .pointer (some ⟨b1, 0, none⟩) := by simpa using hf.get t _ ht
  have e2 : a.tmps[u]?.getD undef = .pointer (some ⟨b2, 0, none⟩) := by simpa using hf.get u _ hu
  have l1 := run_loadCells_list (P := P) (w := w) ⟨b1, 0, none⟩ v1 (fun j v hv => by rw [Addr.add_lit]; exact c1 w hs j v hv)
  have l2 := run_loadCells_list (P := P) (w := w) ⟨b2, 0, none⟩ v2 (fun j v hv => by rw [Addr.add_lit]; exact c2 w hs j v hv)
  simp [results, hr, e1, e2, loadVar, run_isAgg a1, run_isAgg a2, run_sizeOf n1, run_sizeOf n2, l1, l2, asAddr]
theorem Flat.agg7 {a b c d e f g : Value} {vs cs : List Value} (h : Flat vs cs) : Flat (.agg #[a, b, c, d, e, f, g] :: vs) (a :: b :: c :: d :: e :: f :: g :: cs) := Flat.agg (ws := [a, b, c, d, e, f, g]) h
theorem q_addW {C : Cx} {x y : Operand} {dst : Option Tmp} {ty : TypeId} {pos : String} {aft : Array Edge} {g : Option (Nat × Bool)} {xT yT : TypeId} {m n : Int} (h1 : evalE L x = some (.int .i64 m)) (h2 : evalE L y = some (.int .i64 n)) : Quiet C R H L ⟨dst, .binOp .add xT x y yT, ty, pos, aft, g⟩ (.int .i64 (IntKind.i64.wrap (m + n))) :=
  q_arith (C := C) (R := R) (H := H) (dst := dst) (ty := ty) (pos := pos) (aft := aft) (g := g) (xT := xT) (yT := yT) (.inl ⟨rfl, rfl⟩) h1 h2
end Go.Eng
/- Answers checked. -/
namespace Go.Proofs.YtjbebmealbnmgaaGreat
open Go.Eng Go.Step
set_option maxRecDepth 100000
set_option maxHeartbeats 4000000

set_option maxHeartbeats 32000000 in
theorem certChk_spec {ρ τ σ υ : PH} (ω : PH) {pq pc pb ph : Option Addr} {kq kc kb kh : Nat} {qs : List Int} {cs : List Ct} {bs : List Bk} {hs : List Hd} (hT : TbAt ρ τ σ υ pq pc pb ph kq kc kb kh qs cs bs hs) (γ κ : PH) (d : Dm) (acc : Bool) (vol : Int) (q : Option Addr) (kl : Nat) (l : List Sh) (hv : ShAt ω (.slice q l.length kl) l) (hll : l.length ≤ 1000000) (p : Option Addr) (kk : Nat) (c : Cu) (hc : CutRow γ κ p c) (hcl : c.length ≤ 9223372036854775807) :
    Ans Tryz.prog (fv 17) [.agg #[.slice pq qs.length kq, .slice pc cs.length kc, .slice pb bs.length kb, .slice ph hs.length kh], .agg #[int d.s, int d.d, int d.v, int d.r, int d.e], .agg #[.bool acc, int vol, .slice q l.length kl, .slice p c.length kk]] [ρ, τ, σ, υ, ω, γ, κ] (fun r => r = int (checkR qs cs bs hs d acc vol l c)) := by
  refine spec_in (cap := []) Tryz.func17 rfl rfl Tryz.ntmps17 rfl (by (repeat (first | exact EnvA.nil EnvI.nil | apply EnvA.cons | apply EnvA.nil | exact EnvI.nil | apply EnvI.cons)); first | done | fail) (fun N β => ?_)
  refine jk_seq ?_
  refine jk_region ?_
  refine jk_op (l_boxS rfl) rfl rfl rfl ?_
  rintro _ _ ⟨b1, rfl, rfl⟩
  refine jk_freeze (ρ := sng b1 _) takeZ ?_
  have ct : RdN (sng b1 (.cells #[.slice pq qs.length kq, .slice pc cs.length kc, .slice pb bs.length kb, .slice ph hs.length kh] 29 (0, 0))) b1 0 [.slice pq qs.length kq, .slice pc cs.length kc, .slice pb bs.length kb, .slice ph hs.length kh] := rdN_sng (vs := [.slice pq qs.length kq, .slice pc cs.length kc, .slice pb bs.length kb, .slice ph hs.length kh])
  have ct0 : rdc (sng b1 (.cells #[.slice pq qs.length kq, .slice pc cs.length kc, .slice pb bs.length kb, .slice ph hs.length kh] 29 (0, 0))) b1 0 = some (.slice pq qs.length kq) := by rw [rdc_sng]; rfl
  have ct1 : rdc (sng b1 (.cells #[.slice pq qs.length kq, .slice pc cs.length kc, .slice pb bs.length kb, .slice ph hs.length kh] 29 (0, 0))) b1 1 = some (.slice pc cs.length kc) := by rw [rdc_sng]; rfl
  have ct2 : rdc (sng b1 (.cells #[.slice pq qs.length kq, .slice pc cs.length kc, .slice pb bs.length kb, .slice ph hs.length kh] 29 (0, 0))) b1 2 = some (.slice pb bs.length kb) := by rw [rdc_sng]; rfl
  have ct3 : rdc (sng b1 (.cells #[.slice pq qs.length kq, .slice pc cs.length kc, .slice pb bs.length kb, .slice ph hs.length kh] 29 (0, 0))) b1 3 = some (.slice ph hs.length kh) := by rw [rdc_sng]; rfl
  have ctp : RdP (sng b1 (.cells #[.slice pq qs.length kq, .slice pc cs.length kc, .slice pb bs.length kb, .slice ph hs.length kh] 29 (0, 0))) b1 0 [.slice pq qs.length kq, .slice pc cs.length kc] := rdP_sng (xs := [.slice pq qs.length kq, .slice pc cs.length kc, .slice pb bs.length kb, .slice ph hs.length kh]) rfl
  refine jk_op (l_boxS rfl) rfl rfl rfl ?_
  rintro _ _ ⟨b2, rfl, rfl⟩
  refine jk_freeze (ρ := sng b2 _) takeZ ?_
  have cd : RdN (sng b2 (.cells #[int d.s, int d.d, int d.v, int d.r, int d.e] 31 (0, 0))) b2 0 [int d.s, int d.d, int d.v, int d.r, int d.e] := rdN_sng (vs := [int d.s, int d.d, int d.v, int d.r, int d.e])
  have cd0 : rdc (sng b2 (.cells #[int d.s, int d.d, int d.v, int d.r, int d.e] 31 (0, 0))) b2 0 = some (int d.s) := by rw [rdc_sng]; rfl
  have cd1 : rdc (sng b2 (.cells #[int d.s, int d.d, int d.v, int d.r, int d.e] 31 (0, 0))) b2 1 = some (int d.d) := by rw [rdc_sng]; rfl
  have cd2 : rdc (sng b2 (.cells #[int d.s, int d.d, int d.v, int d.r, int d.e] 31 (0, 0))) b2 2 = some (int d.v) := by rw [rdc_sng]; rfl
  have cd3 : rdc (sng b2 (.cells #[int d.s, int d.d, int d.v, int d.r, int d.e] 31 (0, 0))) b2 3 = some (int d.r) := by rw [rdc_sng]; rfl
  have cd4 : rdc (sng b2 (.cells #[int d.s, int d.d, int d.v, int d.r, int d.e] 31 (0, 0))) b2 4 = some (int d.e) := by rw [rdc_sng]; rfl
  refine jk_op (l_boxS rfl) rfl rfl rfl ?_
  rintro _ _ ⟨b3, rfl, rfl⟩
  refine jk_freeze (ρ := sng b3 _) takeZ ?_
  have ca : RdN (sng b3 (.cells #[.bool acc, int vol, .slice q l.length kl, .slice p c.length kk] 56 (0, 0))) b3 0 [.bool acc, int vol, .slice q l.length kl, .slice p c.length kk] := rdN_sng (vs := [.bool acc, int vol, .slice q l.length kl, .slice p c.length kk])
  have ca0 : rdc (sng b3 (.cells #[.bool acc, int vol, .slice q l.length kl, .slice p c.length kk] 56 (0, 0))) b3 0 = some (.bool acc) := by rw [rdc_sng]; rfl
  have ca1 : rdc (sng b3 (.cells #[.bool acc, int vol, .slice q l.length kl, .slice p c.length kk] 56 (0, 0))) b3 1 = some (int vol) := by rw [rdc_sng]; rfl
  have ca2 : rdc (sng b3 (.cells #[.bool acc, int vol, .slice q l.length kl, .slice p c.length kk] 56 (0, 0))) b3 2 = some (.slice q l.length kl) := by rw [rdc_sng]; rfl
  have ca3 : rdc (sng b3 (.cells #[.bool acc, int vol, .slice q l.length kl, .slice p c.length kk] 56 (0, 0))) b3 3 = some (.slice p c.length kk) := by rw [rdc_sng]; rfl
  cases acc with
  | true =>
    have hR : checkR qs cs bs hs d true vol l c = if (flowR qs cs bs hs d l).2 ≠ 0 then (flowR qs cs bs hs d l).2 else if (flowR qs cs bs hs d l).1 ≠ d.v ∨ vol ≠ d.v ∨ 0 < c.length then 26 else 0 := rfl
    rw [hR]
    refine zq_assign ?_
    refine jk_nil ?_
    refine jk_seq ?_
    refine jk_seq ?_
    refine jk_region ?_
    refine zq_fld0 ?_
    refine zq_load ?_
    refine jk_nil ?_
    refine jk_if_t rfl ?_
    refine jk_seq ?_
    refine jk_region ?_
    refine zq_loadS ?_
    refine zq_loadS ?_
    refine zq_fld0 ?_
    refine zq_load ?_
    refine jk_call (certFlow_spec ω hT d _ l hv hll) rfl rfl rdZ rfl rfl ?_
    rintro _ rfl
    generalize (flowR qs cs bs hs d l).1 = z1
    generalize (flowR qs cs bs hs d l).2 = z2
    by_cases h0 : z2 = 0
    rotate_left
    · rw [if_pos h0]
      refine zq_move ?_
      refine zq_extract ?_
      refine zq_extract ?_
      refine zq_assign ?_
      refine zq_assign ?_
      refine jk_nil ?_
      refine jk_seq ?_
      refine jk_seq ?_
      refine jk_region ?_
      refine zq_move ?_
      refine zq_ne ?_
      refine jk_nil ?_
      refine jk_if_t rfl ?_
      refine jk_seq ?_
      refine jk_region ?_
      refine zq_move ?_
      refine zq_assign ?_
      refine jk_nil ?_
      exact jk_ret_any (res1 rfl rfl) (by (repeat (first | exact rs_nil | (refine rs_cons ?_ ?_; (focus ((repeat (first | exact .here | apply Mem.there | apply Take.there)); first | done | fail))) | exact fun ρ hρ => hρ | (intro ρ hρ; repeat (first | exact hρ | refine List.mem_cons_of_mem _ ?_)))); first | done | fail) selZ ⟨rfl, rfl⟩
    rw [if_neg (fun h => h h0)]
    by_cases h1 : z1 = d.v
    rotate_left
    · rw [if_pos (.inl h1)]
      refine zq_move ?_
      refine zq_extract ?_
      refine zq_extract ?_
      refine zq_assign ?_
      refine zq_assign ?_
      refine jk_nil ?_
      refine jk_seq ?_
      refine jk_seq ?_
      refine jk_region ?_
      refine zq_move ?_
      refine zq_neF ?_
      refine jk_nil ?_
      refine jk_if_f rfl ?_
      refine jk_skip ?_
      refine jk_seq ?_
      refine jk_seq ?_
      refine jk_region ?_
      refine zq_move ?_
      refine zq_fld0 ?_
      refine zq_load ?_
      refine zq_ne ?_
      refine zq_move ?_
      refine jk_pass rfl rfl rfl ?_
      refine jk_pass rfl rfl rfl ?_
      refine jk_pass rfl rfl rfl ?_
      refine jk_pass rfl rfl rfl ?_
      refine jk_pass rfl rfl rfl ?_
      refine zq_pick_t ?_
      refine zq_move ?_
      refine jk_pass rfl rfl rfl ?_
      refine jk_pass rfl rfl rfl ?_
      refine jk_pass rfl rfl rfl ?_
      refine jk_pass rfl rfl rfl ?_
      refine zq_pick_t ?_
      refine jk_nil ?_
      refine jk_if_t rfl ?_
      refine jk_seq ?_
      refine jk_region ?_
      refine zq_assign ?_
      refine jk_nil ?_
      exact jk_ret_any (res1 rfl rfl) (by (repeat (first | exact rs_nil | (refine rs_cons ?_ ?_; (focus ((repeat (first | exact .here | apply Mem.there | apply Take.there)); first | done | fail))) | exact fun ρ hρ => hρ | (intro ρ hρ; repeat (first | exact hρ | refine List.mem_cons_of_mem _ ?_)))); first | done | fail) selZ ⟨rfl, rfl⟩
    by_cases h2 : vol = d.v
    rotate_left
    · rw [if_pos (.inr (.inl h2))]
      refine zq_move ?_
      refine zq_extract ?_
      refine zq_extract ?_
      refine zq_assign ?_
      refine zq_assign ?_
      refine jk_nil ?_
      refine jk_seq ?_
      refine jk_seq ?_
      refine jk_region ?_
      refine zq_move ?_
      refine zq_neF ?_
      refine jk_nil ?_
      refine jk_if_f rfl ?_
      refine jk_skip ?_
      refine jk_seq ?_
      refine jk_seq ?_
      refine jk_region ?_
      refine zq_move ?_
      refine zq_fld0 ?_
      refine zq_load ?_
      refine zq_neF ?_
      refine zq_move ?_
      refine zq_fld0 ?_
      refine zq_load ?_
      refine zq_fld0 ?_
      refine zq_load ?_
      refine zq_ne ?_
      refine zq_pick_f ?_
      refine zq_move ?_
      refine jk_pass rfl rfl rfl ?_
      refine jk_pass rfl rfl rfl ?_
      refine jk_pass rfl rfl rfl ?_
      refine jk_pass rfl rfl rfl ?_
      refine zq_pick_t ?_
      refine jk_nil ?_
      refine jk_if_t rfl ?_
      refine jk_seq ?_
      refine jk_region ?_
      refine zq_assign ?_
      refine jk_nil ?_
      exact jk_ret_any (res1 rfl rfl) (by (repeat (first | exact rs_nil | (refine rs_cons ?_ ?_; (focus ((repeat (first | exact .here | apply Mem.there | apply Take.there)); first | done | fail))) | exact fun ρ hρ => hρ | (intro ρ hρ; repeat (first | exact hρ | refine List.mem_cons_of_mem _ ?_)))); first | done | fail) selZ ⟨rfl, rfl⟩
    by_cases h3 : 0 < c.length
    · rw [if_pos (.inr (.inr h3))]
      refine zq_move ?_
      refine zq_extract ?_
      refine zq_extract ?_
      refine zq_assign ?_
      refine zq_assign ?_
      refine jk_nil ?_
      refine jk_seq ?_
      refine jk_seq ?_
      refine jk_region ?_
      refine zq_move ?_
      refine zq_neF ?_
      refine jk_nil ?_
      refine jk_if_f rfl ?_
      refine jk_skip ?_
      refine jk_seq ?_
      refine jk_seq ?_
      refine jk_region ?_
      refine zq_move ?_
      refine zq_fld0 ?_
      refine zq_load ?_
      refine zq_neF ?_
      refine zq_move ?_
      refine zq_fld0 ?_
      refine zq_load ?_
      refine zq_fld0 ?_
      refine zq_load ?_
      refine zq_neF ?_
      refine zq_pick_f ?_
      refine zq_move ?_
      refine zq_fld0 ?_
      refine zq_load ?_
      refine zq_len ?_
      refine zq_gt ?_
      refine zq_pick_f ?_
      refine jk_nil ?_
      refine jk_if_t rfl ?_
      refine jk_seq ?_
      refine jk_region ?_
      refine zq_assign ?_
      refine jk_nil ?_
      exact jk_ret_any (res1 rfl rfl) (by (repeat (first | exact rs_nil | (refine rs_cons ?_ ?_; (focus ((repeat (first | exact .here | apply Mem.there | apply Take.there)); first | done | fail))) | exact fun ρ hρ => hρ | (intro ρ hρ; repeat (first | exact hρ | refine List.mem_cons_of_mem _ ?_)))); first | done | fail) selZ ⟨rfl, rfl⟩
    rw [if_neg (by omega)]
    refine zq_move ?_
    refine zq_extract ?_
    refine zq_extract ?_
    refine zq_assign ?_
    refine zq_assign ?_
    refine jk_nil ?_
    refine jk_seq ?_
    refine jk_seq ?_
    refine jk_region ?_
    refine zq_move ?_
    refine zq_neF ?_
    refine jk_nil ?_
    refine jk_if_f rfl ?_
    refine jk_skip ?_
    refine jk_seq ?_
    refine jk_seq ?_
    refine jk_region ?_
    refine zq_move ?_
    refine zq_fld0 ?_
    refine zq_load ?_
    refine zq_neF ?_
    refine zq_move ?_
    refine zq_fld0 ?_
    refine zq_load ?_
    refine zq_fld0 ?_
    refine zq_load ?_
    refine zq_neF ?_
    refine zq_pick_f ?_
    refine zq_move ?_
    refine zq_fld0 ?_
    refine zq_load ?_
    refine zq_len ?_
    refine zq_gtF ?_
    refine zq_pick_f ?_
    refine jk_nil ?_
    refine jk_if_f rfl ?_
    refine jk_skip ?_
    refine jk_seq ?_
    refine jk_region ?_
    refine zq_assign ?_
    refine jk_nil ?_
    exact jk_ret_any (res1 rfl rfl) (by (repeat (first | exact rs_nil | (refine rs_cons ?_ ?_; (focus ((repeat (first | exact .here | apply Mem.there | apply Take.there)); first | done | fail))) | exact fun ρ hρ => hρ | (intro ρ hρ; repeat (first | exact hρ | refine List.mem_cons_of_mem _ ?_)))); first | done | fail) selZ ⟨rfl, rfl⟩
  | false =>
    have hR : checkR qs cs bs hs d false vol l c = if (capR qs cs bs hs d c).2 ≠ 0 then (capR qs cs bs hs d c).2 else if (capR qs cs bs hs d c).1 ≠ vol ∨ d.v ≤ (capR qs cs bs hs d c).1 ∨ 0 < l.length then 26 else 0 := rfl
    rw [hR]
    refine zq_assign ?_
    refine jk_nil ?_
    refine jk_seq ?_
    refine jk_seq ?_
    refine jk_region ?_
    refine zq_fld0 ?_
    refine zq_load ?_
    refine jk_nil ?_
    refine jk_if_f rfl ?_
    refine jk_skip ?_
    refine jk_seq ?_
    refine jk_region ?_
    refine zq_loadS ?_
    refine zq_loadS ?_
    refine zq_fld0 ?_
    refine zq_load ?_
    refine jk_call (certCap_spec hT γ κ d p kk c hc hcl) rfl rfl rdZ rfl rfl ?_
    rintro _ rfl
    generalize (capR qs cs bs hs d c).1 = z1
    generalize (capR qs cs bs hs d c).2 = z2
    by_cases h0 : z2 = 0
    rotate_left
    · rw [if_pos h0]
      refine zq_move ?_
      refine zq_extract ?_
      refine zq_extract ?_
      refine zq_assign ?_
      refine zq_assign ?_
      refine jk_nil ?_
      refine jk_seq ?_
      refine jk_seq ?_
      refine jk_region ?_
      refine zq_move ?_
      refine zq_ne ?_
      refine jk_nil ?_
      refine jk_if_t rfl ?_
      refine jk_seq ?_
      refine jk_region ?_
      refine zq_move ?_
      refine zq_assign ?_
      refine jk_nil ?_
      exact jk_ret_any (res1 rfl rfl) (by (repeat (first | exact rs_nil | (refine rs_cons ?_ ?_; (focus ((repeat (first | exact .here | apply Mem.there | apply Take.there)); first | done | fail))) | exact fun ρ hρ => hρ | (intro ρ hρ; repeat (first | exact hρ | refine List.mem_cons_of_mem _ ?_)))); first | done | fail) selZ ⟨rfl, rfl⟩
    rw [if_neg (fun h => h h0)]
    by_cases h1 : z1 = vol
    rotate_left
    · rw [if_pos (.inl h1)]
      refine zq_move ?_
      refine zq_extract ?_
      refine zq_extract ?_
      refine zq_assign ?_
      refine zq_assign ?_
      refine jk_nil ?_
      refine jk_seq ?_
      refine jk_seq ?_
      refine jk_region ?_
      refine zq_move ?_
      refine zq_neF ?_
      refine jk_nil ?_
      refine jk_if_f rfl ?_
      refine jk_skip ?_
      refine jk_seq ?_
      refine jk_seq ?_
      refine jk_region ?_
      refine zq_move ?_
      refine zq_fld0 ?_
      refine zq_load ?_
      refine zq_ne ?_
      refine zq_move ?_
      refine jk_pass rfl rfl rfl ?_
      refine jk_pass rfl rfl rfl ?_
      refine jk_pass rfl rfl rfl ?_
      refine jk_pass rfl rfl rfl ?_
      refine zq_pick_t ?_
      refine zq_move ?_
      refine jk_pass rfl rfl rfl ?_
      refine jk_pass rfl rfl rfl ?_
      refine jk_pass rfl rfl rfl ?_
      refine jk_pass rfl rfl rfl ?_
      refine zq_pick_t ?_
      refine jk_nil ?_
      refine jk_if_t rfl ?_
      refine jk_seq ?_
      refine jk_region ?_
      refine zq_assign ?_
      refine jk_nil ?_
      exact jk_ret_any (res1 rfl rfl) (by (repeat (first | exact rs_nil | (refine rs_cons ?_ ?_; (focus ((repeat (first | exact .here | apply Mem.there | apply Take.there)); first | done | fail))) | exact fun ρ hρ => hρ | (intro ρ hρ; repeat (first | exact hρ | refine List.mem_cons_of_mem _ ?_)))); first | done | fail) selZ ⟨rfl, rfl⟩
    by_cases h2 : d.v ≤ z1
    · rw [if_pos (.inr (.inl h2))]
      refine zq_move ?_
      refine zq_extract ?_
      refine zq_extract ?_
      refine zq_assign ?_
      refine zq_assign ?_
      refine jk_nil ?_
      refine jk_seq ?_
      refine jk_seq ?_
      refine jk_region ?_
      refine zq_move ?_
      refine zq_neF ?_
      refine jk_nil ?_
      refine jk_if_f rfl ?_
      refine jk_skip ?_
      refine jk_seq ?_
      refine jk_seq ?_
      refine jk_region ?_
      refine zq_move ?_
      refine zq_fld0 ?_
      refine zq_load ?_
      refine zq_neF ?_
      refine zq_move ?_
      refine zq_move ?_
      refine zq_fld0 ?_
      refine zq_load ?_
      refine zq_ge ?_
      refine zq_pick_f ?_
      refine zq_move ?_
      refine jk_pass rfl rfl rfl ?_
      refine jk_pass rfl rfl rfl ?_
      refine jk_pass rfl rfl rfl ?_
      refine jk_pass rfl rfl rfl ?_
      refine zq_pick_t ?_
      refine jk_nil ?_
      refine jk_if_t rfl ?_
      refine jk_seq ?_
      refine jk_region ?_
      refine zq_assign ?_
      refine jk_nil ?_
      exact jk_ret_any (res1 rfl rfl) (by (repeat (first | exact rs_nil | (refine rs_cons ?_ ?_; (focus ((repeat (first | exact .here | apply Mem.there | apply Take.there)); first | done | fail))) | exact fun ρ hρ => hρ | (intro ρ hρ; repeat (first | exact hρ | refine List.mem_cons_of_mem _ ?_)))); first | done | fail) selZ ⟨rfl, rfl⟩
    by_cases h3 : 0 < l.length
    · rw [if_pos (.inr (.inr h3))]
      refine zq_move ?_
      refine zq_extract ?_
      refine zq_extract ?_
      refine zq_assign ?_
      refine zq_assign ?_
      refine jk_nil ?_
      refine jk_seq ?_
      refine jk_seq ?_
      refine jk_region ?_
      refine zq_move ?_
      refine zq_neF ?_
      refine jk_nil ?_
      refine jk_if_f rfl ?_
      refine jk_skip ?_
      refine jk_seq ?_
      refine jk_seq ?_
      refine jk_region ?_
      refine zq_move ?_
      refine zq_fld0 ?_
      refine zq_load ?_
      refine zq_neF ?_
      refine zq_move ?_
      refine zq_move ?_
      refine zq_fld0 ?_
      refine zq_load ?_
      refine zq_geF ?_
      refine zq_pick_f ?_
      refine zq_move ?_
      refine zq_fld0 ?_
      refine zq_load ?_
      refine zq_len ?_
      refine zq_gt ?_
      refine zq_pick_f ?_
      refine jk_nil ?_
      refine jk_if_t rfl ?_
      refine jk_seq ?_
      refine jk_region ?_
      refine zq_assign ?_
      refine jk_nil ?_
      exact jk_ret_any (res1 rfl rfl) (by (repeat (first | exact rs_nil | (refine rs_cons ?_ ?_; (focus ((repeat (first | exact .here | apply Mem.there | apply Take.there)); first | done | fail))) | exact fun ρ hρ => hρ | (intro ρ hρ; repeat (first | exact hρ | refine List.mem_cons_of_mem _ ?_)))); first | done | fail) selZ ⟨rfl, rfl⟩
    rw [if_neg (by omega)]
    refine zq_move ?_
    refine zq_extract ?_
    refine zq_extract ?_
    refine zq_assign ?_
    refine zq_assign ?_
    refine jk_nil ?_
    refine jk_seq ?_
    refine jk_seq ?_
    refine jk_region ?_
    refine zq_move ?_
    refine zq_neF ?_
    refine jk_nil ?_
    refine jk_if_f rfl ?_
    refine jk_skip ?_
    refine jk_seq ?_
    refine jk_seq ?_
    refine jk_region ?_
    refine zq_move ?_
    refine zq_fld0 ?_
    refine zq_load ?_
    refine zq_neF ?_
    refine zq_move ?_
    refine zq_move ?_
    refine zq_fld0 ?_
    refine zq_load ?_
    refine zq_geF ?_
    refine zq_pick_f ?_
    refine zq_move ?_
    refine zq_fld0 ?_
    refine zq_load ?_
    refine zq_len ?_
    refine zq_gtF ?_
    refine zq_pick_f ?_
    refine jk_nil ?_
    refine jk_if_f rfl ?_
    refine jk_skip ?_
    refine jk_seq ?_
    refine jk_region ?_
    refine zq_assign ?_
    refine jk_nil ?_
    exact jk_ret_any (res1 rfl rfl) (by (repeat (first | exact rs_nil | (refine rs_cons ?_ ?_; (focus ((repeat (first | exact .here | apply Mem.there | apply Take.there)); first | done | fail))) | exact fun ρ hρ => hρ | (intro ρ hρ; repeat (first | exact hρ | refine List.mem_cons_of_mem _ ?_)))); first | done | fail) selZ ⟨rfl, rfl⟩
end Go.Proofs.YtjbebmealbnmgaaGreat
