/- Texts of this proof, one after the other; no conditions. -/
import Derived.Test.YtknfhiolenobaaaGreatWB2
import Derived.Test.YtknfhiolenobaaaGreatWB9
import Derived.Test.YtknfhiolenobaaaGreatWB4
import Derived.Test.YtknfhiolenobaaaGreatWB5
import Derived.Test.YtknfhiolenobaaaGreatWB6
import Derived.Test.YtknfhiolenobaaaGreatWB7
import Derived.Test.YtknfhiolenobaaaGreatWB8
set_option linter.all false
/- Chunks of many blocks: one of their cells is written; tables of numbers. No conditions. -/
namespace Go.Eng
variable {C : Cx} {D : List Deferred} {R H : List PH} {L : Env} {K : List It}
variable {dst : Option Tmp} {ty : TypeId} {pos : String} {aft : Array Edge} {g : Option (Nat × Bool)}
def updP (γ : PH) (b : Nat) (o : Obj) : PH := fun x => if x = b then some o else γ x
theorem updP_same (γ : PH) (b : Nat) (o : Obj) : updP γ b o b = some o := by simp [updP]
theorem updP_other (γ : PH) {b x : Nat} (o : Obj) (h : x ≠ b) : updP γ b o x = γ x := by simp [updP, h]
theorem Sat.turnP {N : Bs} {w w' : World} {b : Nat} {γ : PH} {o o' : Obj} {H' : List PH} (h : Sat N R H w) (t : Take γ H H') (hγ : γ b = some o) (hs : w'.heap.size = w.heap.size) (hb : w'.heap[b]? = some o') (ho : ∀ k, k ≠ b → w'.heap[k]? = w.heap[k]?) (hio : w'.os = w.os ∧ w'.output = w.output ∧ w'.tape = w.tape) : Sat N R (updP γ b o' :: H') w' := by
  have h1 := h.take t
  have hd1 := List.pairwise_cons.1 h1.hd
  have keep : ∀ ρ : PH, ρ.disj γ → ρ.le w → ρ.le w' := fun ρ hd hr k ob hk => by
    have hne : k ≠ b := fun e => by
      subst e
      rcases hd k with h2 | h2
      · rw [h2] at hk; simp at hk
      · rw [h2] at hγ; simp at hγ
    rw [ho k hne]; exact hr k ob hk
  have dj : ∀ ρ : PH, ρ.disj γ → ρ.disj (updP γ b o') := fun ρ hd k => by
    rcases hd k with h2 | h2
    · exact .inl h2
    · right
      have hk : k ≠ b := fun e => by subst e; rw [h2] at hγ; simp at hγ
      rw [updP_other γ o' hk]; exact h2
  refine ⟨by rw [hs, hio.1, hio.2.1, hio.2.2]; exact h.sz, fun ρ hr => keep ρ (h1.rd ρ hr _ (by simp)) (h.r ρ hr), fun ρ hr => ?_, List.pairwise_cons.2 ⟨fun ρ hr => (dj ρ (hd1.1 ρ hr).symm).symm, hd1.2⟩, fun ρ hr σ hσ => ?_⟩
  · simp at hr
    rcases hr with rfl | hr
    · intro k ob hk
      by_cases e : k = b
      · subst e
        rw [updP_same] at hk
        rw [hb, hk]
      · rw [updP_other γ o' e] at hk
        rw [ho k e]; exact h.h γ t.mem k ob hk
    · exact keep ρ (hd1.1 ρ hr).symm (h.h ρ (t.sub ρ hr))
  · simp at hσ
    rcases hσ with rfl | hσ
    · exact dj ρ (h1.rd ρ hr _ (by simp))
    · exact h.rd ρ hr σ (t.sub σ hσ)
theorem FI {t T : TypeId} {x y : Operand} {b o : Nat} {c : Array Value} {v : Value} {γ : PH} {H' : List PH} (h : evalE L x = some (.pointer (some ⟨b, o, none⟩))) (hv : evalE L y = some v) (h1 : v.oneCell' = true) (hn : szP C.P t = some 1)
    (ht : Take γ H H') (hγ : γ b = some (.cells c T (0, 0))) (ho : o < c.size) :
    Loud C R H L ⟨dst, .store t x y, ty, pos, aft, g⟩ (fun u H2 => u = undef ∧ H2 = updP γ b (.cells (c.setIfInBounds o v) T (0, 0)) :: H') := by
  refine ⟨fun a w hx hs next Q hnx => ?_⟩
  have hg : w.heap[b]? = some (.cells c T (0, 0)) := hs.h γ ht.mem b _ hγ
  have hcell : w.cell? ⟨b, o, none⟩ = some c[o] := by simp [World.cell?, hg, ho]
  have hfr := frozen_of_row w b o c T hg
  have hsz : v.cells = #[v] := by cases v <;> first | rfl | simp [Value.oneCell'] at h1
  have e1 := hx x (by simp [Op.operands]) _ h
  have e2 := hx y (by simp [Op.operands]) _ hv
  refine wpIn_skipv (w' := w.setCell ⟨b, o, none⟩ v) (by intro c; simp) ?_ (hnx _ _ _ ⟨rfl, rfl⟩ (hs.turnP ht hγ ?_ ?_ ?_ ⟨rfl, rfl, rfl⟩))
  · have hst : (store ⟨b, o, none⟩ v).run C.P w = .ok () (w.setCell ⟨b, o, none⟩ v) := by
      cases v <;> first | (simp [Value.oneCell'] at h1; done) | simp [store, Sem.run, hcell, hfr]
    simp [execOp, e1, e2, Instr.storeAt, Instr.sureAddr, storeVar, run_sizeOf hn, hsz, storeCells, hst, Addr.add]
  · simp [World.setCell]
  · exact heap_setCell_same w b o c T v hg
  · intro k hk; exact heap_setCell_other w ⟨b, o, none⟩ k v hk
theorem GO {b : Nat} {o : Obj} {γ : PH} {H1 H' : List PH} (t1 : Take (sng b o) H H1) (t2 : Take γ H1 H') (h : γ b = none → JK C D R (updP γ b o :: H') L K) : JK C D R H L K := by
  refine ⟨fun a w hf hd hs => ?_⟩
  have s1 := hs.take t1
  have s2 := s1.tail.take t2
  have hp1 := List.pairwise_cons.1 s1.hd
  have hp2 := List.pairwise_cons.1 s2.hd
  have hdj : (sng b o).disj γ := hp1.1 γ t2.mem
  have hγ : γ b = none := by
    rcases hdj b with h | h
    · simp [sng_self] at h
    · exact h
  have hle : (sng b o).le w := s1.h _ (by simp)
  have hsub : ∀ ρ ∈ H', ρ ∈ H1 := fun ρ hr => t2.sub ρ hr
  have dju : ∀ ρ : PH, ρ.disj (sng b o) → ρ.disj γ → ρ.disj (updP γ b o) := fun ρ d1 d2 k => by
    by_cases e : k = b
    · subst e
      rcases d1 k with h | h
      · exact .inl h
      · simp [sng_self] at h
    · rw [updP_other γ o e]; exact d2 k
  refine (h hγ).run a w hf hd ⟨hs.sz, hs.r, fun ρ hr => ?_, List.pairwise_cons.2 ⟨fun ρ hr => ?_, hp2.2⟩, fun ρ hr σ hσ => ?_⟩
  · simp at hr
    rcases hr with rfl | hr
    · intro k ob hk
      by_cases e : k = b
      · subst e
        rw [updP_same] at hk
        exact hle k ob (by rw [← hk]; exact sng_self k o)
      · rw [updP_other γ o e] at hk
        exact s2.h γ (by simp) k ob hk
    · exact s2.h ρ (by simp [hr])
  · exact (dju ρ (hp1.1 ρ (hsub ρ hr)).symm (hp2.1 ρ hr).symm).symm
  · simp at hσ
    rcases hσ with rfl | hσ
    · exact dju ρ (s1.rd ρ hr _ (by simp)) (s2.rd ρ hr γ (by simp))
    · exact s2.rd ρ hr σ (by simp [hσ])
structure Tab (tI : TypeId) (γ : PH) (bs : List Nat) (rows : List (List Int)) : Prop where
  len : bs.length = rows.length
  nd : bs.Nodup
  row : ∀ (i b : Nat) (r : List Int), bs[i]? = some b → rows[i]? = some r → γ b = some (.cells (ints r) tI (0, 0))
theorem Tab.nil (tI : TypeId) (γ : PH) : Tab tI γ [] [] := ⟨rfl, by simp, fun i b r h => by simp at h⟩
theorem Tab.add {tI : TypeId} {γ : PH} {bs : List Nat} {rows : List (List Int)} (h : Tab tI γ bs rows) {b : Nat} {r : List Int} (hb : γ b = none) : Tab tI (updP γ b (.cells (ints r) tI (0, 0))) (bs ++ [b]) (rows ++ [r]) := by
  have hne : ∀ i b', bs[i]? = some b' → b' ≠ b := fun i b' hi e => by
    subst e
    obtain ⟨hlt, _⟩ := List.getElem?_eq_some_iff.1 hi
    have := h.row i b' _ hi (List.getElem?_eq_getElem (by rw [← h.len]; exact hlt))
    rw [hb] at this; simp at this
  refine ⟨by simp [h.len], ?_, fun i b' r' hi hr => ?_⟩
  · rw [List.nodup_append]
    refine ⟨h.nd, by simp, fun x hx y hy => ?_⟩
    simp only [List.mem_singleton] at hy
    subst hy
    obtain ⟨i, hi, rfl⟩ := List.getElem_of_mem hx
    exact hne i _ (List.getElem?_eq_getElem hi)
  · by_cases c : i < bs.length
    · rw [List.getElem?_append_left c] at hi
      rw [List.getElem?_append_left (by rw [← h.len]; exact c)] at hr
      rw [updP_other γ _ (hne i b' hi)]
      exact h.row i b' r' hi hr
    · have hl := h.len
      by_cases e : i = bs.length
      · subst e
        simp at hi
        rw [hl] at hr
        simp at hr
        subst hi hr
        exact updP_same ..
      · rw [List.getElem?_eq_none (by simp; omega)] at hi
        simp at hi
theorem Tab.set {tI : TypeId} {γ : PH} {bs : List Nat} {rows : List (List Int)} (h : Tab tI γ bs rows) {i b : Nat} {r r2 : List Int} (hb : bs[i]? = some b) (hr : rows[i]? = some r) : Tab tI (updP γ b (.cells (ints r2) tI (0, 0))) bs (rows.set i r2) := by
  refine ⟨by simp [h.len], h.nd, fun j b' r' hj hr' => ?_⟩
  by_cases e : j = i
  · subst e
    rw [hb] at hj
    obtain rfl := Option.some.inj hj
    have hlt := (List.getElem?_eq_some_iff.1 hr).1
    rw [List.getElem?_set_self hlt] at hr'
    obtain rfl := Option.some.inj hr'
    exact updP_same ..
  · rw [List.getElem?_set_ne (Ne.symm e)] at hr'
    have hne : b' ≠ b := fun e2 => by
      subst e2
      obtain ⟨h1, h2⟩ := List.getElem?_eq_some_iff.1 hj
      obtain ⟨h3, h4⟩ := List.getElem?_eq_some_iff.1 hb
      exact e ((List.getElem_inj h.nd).1 (by rw [h2, h4]))
    rw [updP_other γ _ hne]
    exact h.row j b' r' hj hr'
theorem Tab.cell {tI : TypeId} {γ : PH} {bs : List Nat} {rows : List (List Int)} (h : Tab tI γ bs rows) {i b k : Nat} {r : List Int} {x : Int} (hb : bs[i]? = some b) (hr : rows[i]? = some r) (hx : r[k]? = some x) : rdc γ b k = some (int x) := by
  have := h.row i b r hb hr
  obtain ⟨hk, rfl⟩ := List.getElem?_eq_some_iff.1 hx
  unfold rdc
  rw [this]
  exact ints_get hk
theorem Tab.ints {tI : TypeId} {γ : PH} {bs : List Nat} {rows : List (List Int)} (h : Tab tI γ bs rows) {i b : Nat} {r : List Int} {c : Nat} (hb : bs[i]? = some b) (hr : rows[i]? = some r) : IntsAt γ (.slice (some ⟨b, 0, none⟩) r.length c) r := by
  refine ⟨by rw [flat_len encI_len], .inr ⟨b, 0, c, rfl, fun j u hu => ?_⟩⟩
  have e : r.flatMap encI = r.map int := by
    clear hu hr
    induction r <;> simp_all [encI]
  rw [e] at hu
  have := h.row i b r hb hr
  unfold rdc
  rw [this, Nat.zero_add]
  show (Eng.ints r)[j]? = some u
  simpa [Eng.ints] using hu
def rowsV (n : Nat) (bs : List Nat) : List Value := bs.map (fun b => .slice (some ⟨b, 0, none⟩) n n)
end Go.Eng
/- The table of stocks. -/
namespace Go.Proofs.YtknfhiolenobaaaGreat
open Go.Eng Go.Step
set_option maxRecDepth 100000
set_option maxHeartbeats 4000000

theorem ch_ok {qs : List Int} {cs : List Ct} {bs : List Bk} {d : Dm} {l : List Sh} (hS : ∀ x ∈ l, ship1 cs bs d x = 0) (hcs : ∀ c ∈ cs, chkCt c = 0 ∧ c.f < qs.length ∧ c.t < qs.length) {c : List Int} (hc : c ∈ chAll cs l) :
  ∃ (nd : Nat) (t y : Int), c = [(nd : Int), t, y] ∧ nd < qs.length ∧ d.r ≤ t ∧ t ≤ d.e ∧ -1000 ≤ y ∧ y ≤ 1000 := by
 obtain ⟨x, hx, hc⟩ := List.mem_flatMap.1 hc
 obtain ⟨nn, k, hnn, hcx, hct, hin, hlate, har⟩ := ship1_ok (hS x hx)
 have hk := hcs k (List.mem_of_getElem? hcx)
 have hck := chkCt_all hk.1
 unfold chsOf at hc
 rw [hct, har] at hc
 simp only [List.mem_cons, List.not_mem_nil, or_false] at hc
 rcases hc with rfl | rfl
 ·exact ⟨k.f.toNat, x.t, -x.n, by rw [Int.toNat_of_nonneg (by omega)], by omega, by omega, by omega, by omega, by omega⟩
 ·exact ⟨k.t.toNat, x.t + 1 + k.g, x.n, by rw [Int.toNat_of_nonneg (by omega)], by omega, by omega, by omega, by omega, by omega⟩
theorem rowsV_len (n : Nat) (bsr : List Nat) : (rowsV n bsr).length = bsr.length := by simp [rowsV]
theorem rowsV_set {n N k b : Nat} {bsr : List Nat} (hk : bsr.length = k) (hN : k < N) : (rowsV n bsr ++ List.replicate (N - k) (Value.slice none 0 0)).toArray.setIfInBounds k (Value.slice (some ⟨b, 0, none⟩) n n) = (rowsV n (bsr ++ [b]) ++ List.replicate (N - (k + 1)) (Value.slice none 0 0)).toArray := by
 apply Array.toList_inj.1
 rw [Array.toList_setIfInBounds]
 have hr : N - k = (N - (k + 1)) + 1 := by omega
 rw [hr, List.replicate_succ]
 simp only
 rw [List.set_append_right _ _ (by rw [rowsV_len]; omega), rowsV_len, hk, Nat.sub_self, List.set_cons_zero]
 simp [rowsV]
set_option maxHeartbeats 64000000 in
theorem stocks_spec {ρ τ σ υ : PH} (ω : PH) {pq pc pb ph : Option Addr} {kq kc kb kh : Nat} {qs : List Int} {cs : List Ct} {bs : List Bk} {hs : List Hd} (hT : TbAt ρ τ σ υ pq pc pb ph kq kc kb kh qs cs bs hs) (d : Dm) (v : Value) (l : List Sh) (hv : ShAt ω v l) (hS : ∀ x ∈ l, ship1 cs bs d x = 0) (hcs : ∀ c ∈ cs, chkCt c = 0 ∧ c.f < qs.length ∧ c.t < qs.length) (hdm : 0 ≤ d.r ∧ d.r < d.e ∧ d.e ≤ 1099511627776 ∧ d.e - d.r ≤ 100) (hql : qs.length ≤ 16) (hll : l.length ≤ 1000000) :
  Eng.Spec Tryz.prog (fv 23) [.agg #[.slice pq qs.length kq, .slice pc cs.length kc, .slice pb bs.length kb, .slice ph hs.length kh], .agg #[int d.s, int d.d, int d.v, int d.r, int d.e], v] [ρ, τ, σ, υ, ω] [] (fun r H' => ∃ (B : Nat) (γ : PH) (bsr : List Nat), r = .slice (some ⟨B, 0, none⟩) qs.length qs.length ∧ H' = [sng B (.cells (rowsV (d.e - d.r + 1).toNat bsr).toArray 22 (0, 0)), γ] ∧ Tab 3 γ bsr (tabC d qs.length (d.e - d.r + 1).toNat (chAll cs l))) := by
 have hv2 := hv
 obtain ⟨q, cc, rfl, hr⟩ := hv.val encX_len
 obtain ⟨m, hm⟩ : ∃ m : Nat, d.e - d.r + 1 = (m : Int) := ⟨(d.e - d.r + 1).toNat, by omega⟩
 rw [hm, Int.toNat_natCast]
 have hm2 : m ≤ 101 := by omega
 refine spec_in (cap := []) Tryz.func23 rfl rfl Tryz.ntmps23 rfl envZ (fun N β => ?_)
 refine AC ?_
 refine AA ?_
 refine BT (BV rfl) rfl rfl rfl ?_
 rintro _ _ ⟨b1, rfl, rfl⟩
 refine AV (ρ := sng b1 _) takeZ ?_
 have ct : RdN (sng b1 (.cells #[.slice pq qs.length kq, .slice pc cs.length kc, .slice pb bs.length kb, .slice ph hs.length kh] 29 (0, 0))) b1 0 [.slice pq qs.length kq, .slice pc cs.length kc, .slice pb bs.length kb, .slice ph hs.length kh] := rdN_sng (vs := [.slice pq qs.length kq, .slice pc cs.length kc, .slice pb bs.length kb, .slice ph hs.length kh])
 have ct0 : rdc (sng b1 (.cells #[.slice pq qs.length kq, .slice pc cs.length kc, .slice pb bs.length kb, .slice ph hs.length kh] 29 (0, 0))) b1 0 = some (.slice pq qs.length kq) := by rw [rdc_sng]; rfl
 have ct1 : rdc (sng b1 (.cells #[.slice pq qs.length kq, .slice pc cs.length kc, .slice pb bs.length kb, .slice ph hs.length kh] 29 (0, 0))) b1 1 = some (.slice pc cs.length kc) := by rw [rdc_sng]; rfl
 have ct2 : rdc (sng b1 (.cells #[.slice pq qs.length kq, .slice pc cs.length kc, .slice pb bs.length kb, .slice ph hs.length kh] 29 (0, 0))) b1 2 = some (.slice pb bs.length kb) := by rw [rdc_sng]; rfl
 have ct3 : rdc (sng b1 (.cells #[.slice pq qs.length kq, .slice pc cs.length kc, .slice pb bs.length kb, .slice ph hs.length kh] 29 (0, 0))) b1 3 = some (.slice ph hs.length kh) := by rw [rdc_sng]; rfl
 have ctp : RdP (sng b1 (.cells #[.slice pq qs.length kq, .slice pc cs.length kc, .slice pb bs.length kb, .slice ph hs.length kh] 29 (0, 0))) b1 0 [.slice pq qs.length kq, .slice pc cs.length kc] := rdP_sng (xs := [.slice pq qs.length kq, .slice pc cs.length kc, .slice pb bs.length kb, .slice ph hs.length kh]) rfl
 refine BT (BV rfl) rfl rfl rfl ?_
 rintro _ _ ⟨b2, rfl, rfl⟩
 refine AV (ρ := sng b2 _) takeZ ?_
 have cd : RdN (sng b2 (.cells #[int d.s, int d.d, int d.v, int d.r, int d.e] 31 (0, 0))) b2 0 [int d.s, int d.d, int d.v, int d.r, int d.e] := rdN_sng (vs := [int d.s, int d.d, int d.v, int d.r, int d.e])
 have cd0 : rdc (sng b2 (.cells #[int d.s, int d.d, int d.v, int d.r, int d.e] 31 (0, 0))) b2 0 = some (int d.s) := by rw [rdc_sng]; rfl
 have cd1 : rdc (sng b2 (.cells #[int d.s, int d.d, int d.v, int d.r, int d.e] 31 (0, 0))) b2 1 = some (int d.d) := by rw [rdc_sng]; rfl
 have cd2 : rdc (sng b2 (.cells #[int d.s, int d.d, int d.v, int d.r, int d.e] 31 (0, 0))) b2 2 = some (int d.v) := by rw [rdc_sng]; rfl
 have cd3 : rdc (sng b2 (.cells #[int d.s, int d.d, int d.v, int d.r, int d.e] 31 (0, 0))) b2 3 = some (int d.r) := by rw [rdc_sng]; rfl
 have cd4 : rdc (sng b2 (.cells #[int d.s, int d.d, int d.v, int d.r, int d.e] 31 (0, 0))) b2 4 = some (int d.e) := by rw [rdc_sng]; rfl
 refine DG ?_
 refine AD ?_
 refine AF ?_
 refine AC ?_
 refine AA ?_
 refine AH ?_
 refine AG ?_
 refine AH ?_
 refine AG ?_
 refine CG ?_
 refine B8 ?_
 refine BE ?_; rintro _ _ ⟨b, rfl, rfl⟩
 refine BB ?_; rintro _ _ ⟨rfl, rfl⟩
 refine AF ?_
 refine AC ?_
 refine AA ?_
 refine AH ?_
 refine AH ?_
 refine AG ?_
 refine A0 ?_
 refine CE ?_; rintro _ _ ⟨b, rfl, rfl⟩
 refine BE ?_; rintro _ _ ⟨b, rfl, rfl⟩
 refine BB ?_; rintro _ _ ⟨rfl, rfl⟩
 refine AF ?_
 refine AC ?_
 refine AC ?_
 refine AA ?_
 refine AG ?_
 refine A0 ?_
 refine AB ?_
 refine AF ?_
 refine AQ ?_
 rw [hm]
 skip
 revert b; intro b8
 revert b; intro B
 revert b; intro b7
 refine AV (ρ := sng b7 _) takeZ ?_
 refine AV (ρ := sng b8 _) takeZ ?_
 have g7 : rdc (sng b7 (.cells #[int m] 3 (0, 0))) b7 0 = some (int m) := by rw [rdc_sng]; rfl
 have g8 : rdc (sng b8 (.cells #[.slice (some ⟨B, 0, none⟩) qs.length qs.length] 76 (0, 0))) b8 0 = some (.slice (some ⟨B, 0, none⟩) qs.length qs.length) := by rw [rdc_sng]; rfl
 refine BN [2, 3, 4, 7, 8, 26] (X := Nat × (List Nat × PH)) (0, ([], emp)) (fun x => x.1 ≤ qs.length ∧ x.2.1.length = x.1 ∧ Tab 3 x.2.2 x.2.1 (List.replicate x.1 (List.replicate m 0))) (fun x => [(27, int x.1)]) (fun x => [sng B (.cells (rowsV m x.2.1 ++ List.replicate (qs.length - x.1) (Value.slice none 0 0)).toArray 22 (0, 0)), x.2.2]) (fun x => qs.length - x.1) pickZ ⟨by dsimp only; omega, rfl, Tab.nil _ _⟩ covZ selZ ?_
 rintro ⟨k, bsr, γ⟩ ⟨hk, hbl, hTb⟩
 dsimp only at hk hbl hTb ⊢
 by_cases hlt : k < qs.length
 ·refine AC ?_
  refine AA ?_
  refine BF ?_
  refine AF ?_
  refine AC ?_
  refine AO rfl ?_
  refine AL ?_
  refine AC ?_
  refine AQ ?_
  refine AC ?_
  refine AA ?_
  refine AB ?_
  refine AD ?_
  refine AF ?_
  refine BM (.q 0 (.q 1 (.q 2 (.l 3 .e (.q 4 (.l 5 .b .nil)))))) [] rfl (by kernel_rfl) Sel.nil ?_
  refine AR ?_
  refine AX ?_
  refine AR ?_
  refine GL ?_; rintro _ _ ⟨b, rfl, rfl⟩
  refine CX ?_
  refine DK ?_
  refine' FU rfl _ rfl rfl _ _; rotate_left
  ·(apply DX; exact rfl; exact rfl; exact rfl; exact rfl; exact takeZ; (simp [rowsV_len, hbl]; omega))
  ·rintro _ _ ⟨_, rfl⟩ w hw; exact hw.sel Sel.nil
  rintro _ _ ⟨rfl, rfl⟩
  refine BJ ?_
  refine A7 ?_
  refine AA ?_
  refine BA ?_
  refine AB ?_
  refine AF ?_
  rw [rowsV_set hbl hlt]
  refine GO (b := b) (γ := γ) takeZ takeZ (fun hγ => ?_)
  refine A4 (k + 1, (bsr ++ [b], _)) ⟨by dsimp only; omega, by simp [hbl], ?_⟩ (by dsimp only; omega) covZ selZ
  dsimp only
  rw [List.replicate_succ']
  exact hTb.add hγ
 have hke : k = qs.length := by omega
 subst hke
 rw [Nat.sub_self, List.replicate_zero, List.append_nil]
 rw [← tabC_zero d] at hTb
 refine AC ?_
 refine AA ?_
 refine AZ ?_
 refine AF ?_
 refine AC ?_
 refine AN rfl ?_
 refine A8 rfl ?_
 refine AC ?_
 refine AC ?_
 refine AA ?_
 refine AM ?_
 refine AB ?_
 refine B5 (changes_spec (.slice q l.length cc) pq pc pb ph qs.length cs.length bs.length hs.length kq kc kb kh rfl) rfl rfl Takes.nil (fun τ hτ => by simp at hτ) rfl rfl ?_
 rintro _ _ ⟨bl, bt, rfl, rfl⟩
 refine AV (ρ := sng bl _) takeZ ?_
 refine AV (ρ := sng bt _) takeZ ?_
 refine AF ?_
 refine AQ ?_
 refine D0 (gf := 76) (cap := [.pointer (some ⟨bl, 0, none⟩), .pointer (some ⟨bt, 0, none⟩)]) (ps := [39]) (X := PH) rfl Tryz.func76 rfl rfl
  (changes_iter ω hT bl bt d _ l hv2 hS (fun c hc => (hcs c hc).1) hdm.1 hll) ?_
  (fun i γ => Tab 3 γ bsr (tabC d qs.length m ((chAll cs l).take i)))
  (fun γ => [sng B (.cells (rowsV m bsr).toArray 22 (0, 0)), γ]) (fun _ _ => False) γ rfl takesZ hTb ?_ ?_ ?_
 ·intro σ' hσ
  simp only [List.mem_cons, List.not_mem_nil, or_false] at hσ ⊢
  rcases hσ with h | h | h | h <;> simp [h]
 ·rintro lo r i γ vs hvs hI hps has hbd hst hpe hfr
  obtain ⟨st, pe, fnn, tm, prm, asg, bdy, df⟩ := r
  simp only at hps has hbd hst hpe hfr
  subst hps has hbd hst hpe
  rw [List.getElem?_map] at hvs
  obtain ⟨c, hc, rfl⟩ := Option.map_eq_some_iff.1 hvs
  obtain ⟨nd, t, y, rfl, hnd, ht1, ht2, hy1, hy2⟩ := ch_ok hS hcs (List.mem_of_getElem? hc)
  refine yield_spec hfr rfl (by intro p hp; simp at hp; omega) putiZ (fun N' β' => ?_)
  dsimp only
  refine AA ?_
  refine AW ?_; rintro _ _ ⟨b, rfl, rfl⟩
  refine AU ?_; rintro _ _ ⟨rfl, rfl⟩
  refine AF ?_
  refine DU rfl rfl ?_
  refine DZ takeZ rfl ?_
  revert b; intro bx
  refine AV (ρ := sng bx _) takeZ ?_
  have gx0 : rdc (sng bx (.cells #[int nd, int t, int y] 131 (0, 0))) bx 0 = some (int nd) := by rw [rdc_sng]; rfl
  have gx1 : rdc (sng bx (.cells #[int nd, int t, int y] 131 (0, 0))) bx 1 = some (int t) := by rw [rdc_sng]; rfl
  have gx2 : rdc (sng bx (.cells #[int nd, int t, int y] 131 (0, 0))) bx 2 = some (int y) := by rw [rdc_sng]; rfl
  obtain ⟨a, ha⟩ : ∃ a : Nat, t - d.r = (a : Int) := ⟨(t - d.r).toNat, by omega⟩
  have hbr := List.getElem?_eq_getElem (show nd < bsr.length by omega)
  have hrow0 := tabC_get (d := d) (m := m) (l := (chAll cs l).take i) hnd
  have hnext := tabC_next (d := d) (m := m) hc hnd
  have hfb : ∀ k, -(2000000000 : Int) ≤ chS d nd k ((chAll cs l).take i) ∧ chS d nd k ((chAll cs l).take i) ≤ 2000000000 := fun k => by
   have h1 := chS_bd d nd k ((chAll cs l).take i) (fun c hc => by
    obtain ⟨n', t', y', rfl, _, _, _, k1, k2⟩ := ch_ok hS hcs (List.mem_of_mem_take hc)
    exact ⟨k1, k2⟩)
   have h2 := chAll_len cs l
   have h3 : ((chAll cs l).take i).length ≤ (chAll cs l).length := by rw [List.length_take]; omega
   omega
  have hlt2 : nd < (tabC d qs.length m ((chAll cs l).take i)).length := by rw [tabC_len]; exact hnd
  rw [ha] at hnext
  generalize hFF : (fun k => chS d nd k ((chAll cs l).take i)) = F at hrow0
  have hFk : ∀ k, chS d nd k ((chAll cs l).take i) = F k := fun k => by rw [← hFF]
  simp only [hFk] at hnext hfb
  generalize tabC d qs.length m ((chAll cs l).take i) = rows at hI hrow0 hnext hlt2
  generalize bsr[nd] = br at hbr
  have gB : rdc (sng B (.cells (rowsV m bsr).toArray 22 (0, 0))) B nd = some (.slice (some ⟨br, 0, none⟩) m m) := by
   rw [rdc_sng]
   simp [rowsV, hbr]
  by_cases hsrc : (nd : Int) = d.s
  ·refine AQ ?_
   refine AC ?_
   refine AA ?_
   refine AH ?_
   refine AG ?_
   refine AH ?_
   refine AG ?_
   refine CG ?_
   refine AD ?_
   refine AF ?_
   refine AC ?_
   refine AC ?_
   refine AA ?_
   refine AH ?_
   refine AG ?_
   refine AH ?_
   refine AG ?_
   refine B7 ?_
   refine AF ?_
   refine AO rfl ?_
   refine AC ?_
   refine AC ?_
   refine AA ?_
   refine AB ?_
   refine AG ?_
   refine C4 ?_
   refine AB ?_
   refine AF ?_
   refine AQ ?_
   rw [ha]
   skip
   refine BN [4, 7, 8, 10, 52] (X := Nat × PH) (0, γ) (fun x => (x.1 : Int) ≤ min (a : Int) m ∧ Tab 3 x.2 bsr (rows.set nd (rowC m (fun k => F k + if (k : Int) < (x.1 : Int) then -y else 0)))) (fun x => [(53, int x.1)]) (fun x => [sng lo (.loop _), sng B _, x.2]) (fun x => m - x.1) pickZ ⟨by dsimp only; omega, ?_⟩ covZ selZ ?_
   ·dsimp only
    have e : rowC m (fun k => F k + if (k : Int) < ((0 : Nat) : Int) then -y else 0) = rowC m F := rowC_congr (fun k _ => by rw [if_neg (by omega), Int.add_zero])
    rw [e]
    have e2 : rows.set nd (rowC m F) = rows := by
     obtain ⟨h1, h2⟩ := List.getElem?_eq_some_iff.1 hrow0
     rw [← h2, List.set_getElem_self]
    rw [e2]
    exact hI
   rintro ⟨j, γ'⟩ ⟨hj, hTj⟩
   dsimp only at hj hTj ⊢
   by_cases hjl : (j : Int) < min (a : Int) m
   ·have hjm : j < m := by omega
    have hrowj := List.getElem?_set_self (a := rowC m (fun k => F k + if (k : Int) < (j : Int) then -y else 0)) hlt2
    have hcell := hTj.cell hbr hrowj (rowC_get hjm)
    rw [if_neg (by omega), Int.add_zero] at hcell
    have hb := hfb j
    have hst := hTj.row nd br _ hbr hrowj
    refine AC ?_
    refine AA ?_
    refine BF ?_
    refine AF ?_
    refine AC ?_
    refine AO rfl ?_
    refine AL ?_
    refine AC ?_
    refine AQ ?_
    refine AC ?_
    refine AA ?_
    refine AB ?_
    refine AD ?_
    refine AF ?_
    refine BM (.q 0 (.q 1 (.q 2 (.q 3 (.q 4 (.q 5 (.q 6 (.q 7 (.q 8 (.q 9 (.q 10 (.q 11 (.l 12 .b .nil))))))))))))) [] rfl (by kernel_rfl) Sel.nil ?_
    refine AR ?_
    refine AY ?_
    refine AR ?_
    refine CX ?_
    refine AR ?_
    refine AX ?_
    refine CX ?_
    refine AR ?_
    refine AY ?_
    refine AR ?_
    refine FH ?_
    refine CX ?_
    refine DK ?_
    refine' FU rfl _ rfl rfl _ _; rotate_left
    ·(apply FI (γ := γ'); exact rfl; exact rfl; exact rfl; exact rfl; exact takeZ; exact hst; (rw [ints_size, rowC_len]; exact hjm))
    ·rintro _ _ ⟨_, rfl⟩ w hw; exact hw.sel Sel.nil
    rintro _ _ ⟨rfl, rfl⟩
    refine BJ ?_
    refine A7 ?_
    refine AA ?_
    refine BA ?_
    refine AB ?_
    refine AF ?_
    rw [ints_set, rowC_set]
    have hset := hTj.set (r2 := rowC m (fun k => if k = j then F j - y else F k + if (k : Int) < (j : Int) then -y else 0)) hbr hrowj
    rw [List.set_set] at hset
    refine A4 (j + 1, _) ⟨by dsimp only; omega, ?_⟩ (by dsimp only; omega) covZ selZ
    dsimp only
    have e : rowC m (fun k => F k + if (k : Int) < ((j + 1 : Nat) : Int) then -y else 0) = rowC m (fun k => if k = j then F j - y else F k + if (k : Int) < (j : Int) then -y else 0) := rowC_congr (fun k _ => by
     by_cases e : k = j
     ·subst e; rw [if_pos rfl, if_pos (by omega)]; try omega
     ·rw [if_neg e]
      by_cases e2 : (k : Int) < (j : Int)
      ·rw [if_pos e2, if_pos (by omega)]
      ·rw [if_neg e2, if_neg (by omega)])
    rw [e]
    exact hset
   ·have hje : (j : Int) = min (a : Int) m := by omega
    rw [hje, row_src (a := (a : Int)) hsrc, ← hnext] at hTj
    refine AC ?_
    refine AA ?_
    refine AZ ?_
    refine AF ?_
    refine AC ?_
    refine AN rfl ?_
    refine A8 rfl ?_
    refine A8 rfl ?_
    exact C7 takeZ rsubZ selZ ⟨γ', .inl ⟨rfl, hTj, rfl⟩⟩
  ·refine AQ ?_
   refine AC ?_
   refine AA ?_
   refine AH ?_
   refine AG ?_
   refine AH ?_
   refine AG ?_
   refine CG ?_
   refine AD ?_
   refine AF ?_
   refine AC ?_
   refine AC ?_
   refine AA ?_
   refine AH ?_
   refine AG ?_
   refine AH ?_
   refine AG ?_
   refine BH ?_
   refine AF ?_
   refine AN rfl ?_
   refine AL ?_
   refine AC ?_
   refine AA ?_
   refine AB ?_
   refine AD ?_
   refine AF ?_
   refine AQ ?_
   rw [ha]
   skip
   refine BN [4, 7, 8, 10] (X := Nat × PH) (a, γ) (fun x => a ≤ x.1 ∧ (x.1 ≤ m ∨ x.1 = a) ∧ Tab 3 x.2 bsr (rows.set nd (rowC m (fun k => F k + if a ≤ k ∧ k < x.1 then y else 0)))) (fun x => [(13, int x.1)]) (fun x => [sng lo (.loop _), sng B _, x.2]) (fun x => m - x.1) pickZ ⟨by dsimp only; omega, by dsimp only; omega, ?_⟩ covZ selZ ?_
   ·dsimp only
    have e : rowC m (fun k => F k + if a ≤ k ∧ k < a then y else 0) = rowC m F := rowC_congr (fun k _ => by rw [if_neg (by omega), Int.add_zero])
    rw [e]
    have e2 : rows.set nd (rowC m F) = rows := by
     obtain ⟨h1, h2⟩ := List.getElem?_eq_some_iff.1 hrow0
     rw [← h2, List.set_getElem_self]
    rw [e2]
    exact hI
   rintro ⟨j, γ'⟩ ⟨hj, hj2, hTj⟩
   dsimp only at hj hj2 hTj ⊢
   by_cases hjm : j < m
   ·skip
    have hrowj := List.getElem?_set_self (a := rowC m (fun k => F k + if a ≤ k ∧ k < j then y else 0)) hlt2
    have hcell := hTj.cell hbr hrowj (rowC_get hjm)
    rw [if_neg (by omega), Int.add_zero] at hcell
    have hb := hfb j
    have hst := hTj.row nd br _ hbr hrowj
    refine AC ?_
    refine AC ?_
    refine AA ?_
    refine AB ?_
    refine AG ?_
    refine BF ?_
    refine AF ?_
    refine AO rfl ?_
    refine AL ?_
    refine AC ?_
    refine AQ ?_
    refine BM (.q 0 (.q 1 (.q 2 (.q 3 (.q 4 (.q 5 (.q 6 (.q 7 (.q 8 (.q 9 (.q 10 (.q 11 (.l 12 .b .nil))))))))))))) [] rfl (by kernel_rfl) Sel.nil ?_
    refine AR ?_
    refine AY ?_
    refine AR ?_
    refine CX ?_
    refine AR ?_
    refine AX ?_
    refine CX ?_
    refine AR ?_
    refine AY ?_
    refine AR ?_
    refine DV ?_
    refine CX ?_
    refine DK ?_
    refine' FU rfl _ rfl rfl _ _; rotate_left
    ·(apply FI (γ := γ'); exact rfl; exact rfl; exact rfl; exact rfl; exact takeZ; exact hst; (rw [ints_size, rowC_len]; exact hjm))
    ·rintro _ _ ⟨_, rfl⟩ w hw; exact hw.sel Sel.nil
    rintro _ _ ⟨rfl, rfl⟩
    refine BJ ?_
    refine A7 ?_
    refine AA ?_
    refine AB ?_
    refine BA ?_
    refine AD ?_
    refine AF ?_
    rw [ints_set, rowC_set]
    have hset := hTj.set (r2 := rowC m (fun k => if k = j then F j + y else F k + if a ≤ k ∧ k < j then y else 0)) hbr hrowj
    rw [List.set_set] at hset
    refine A4 (j + 1, _) ⟨by dsimp only; omega, by dsimp only; omega, ?_⟩ (by dsimp only; omega) covZ selZ
    dsimp only
    have e : rowC m (fun k => F k + if a ≤ k ∧ k < j + 1 then y else 0) = rowC m (fun k => if k = j then F j + y else F k + if a ≤ k ∧ k < j then y else 0) := rowC_congr (fun k _ => by
     by_cases e : k = j
     ·subst e; rw [if_pos rfl, if_pos (by omega)]; try omega
     ·rw [if_neg e]
      by_cases e2 : a ≤ k ∧ k < j
      ·rw [if_pos e2, if_pos (by omega)]
      ·rw [if_neg e2, if_neg (by omega)])
    rw [e]
    exact hset
   ·rw [row_oth (a := a) hsrc (by omega), ← hnext] at hTj
    refine AC ?_
    refine AC ?_
    refine AA ?_
    refine AB ?_
    refine AG ?_
    refine AZ ?_
    refine AF ?_
    refine AN rfl ?_
    refine A8 rfl ?_
    refine A7 ?_
    exact C7 takeZ rsubZ selZ ⟨γ', .inl ⟨rfl, hTj, rfl⟩⟩
 ·rintro b2' γ hI
  rw [List.length_map, List.take_length] at hI
  refine A7 ?_
  refine AC ?_
  refine AA ?_
  refine AG ?_
  refine AD ?_
  refine AF ?_
  exact FV (Marks.cons .here .nil) (res1 rfl rfl) rsubZ selZ ⟨B, γ, bsr, rfl, rfl, hI⟩
 ·rintro _ _ _ h; exact h.elim
end Go.Proofs.YtknfhiolenobaaaGreat
/- The least of numbers; nodes between. -/
namespace Go.Proofs.YtknfhiolenobaaaGreat
open Go.Eng Go.Step
set_option maxRecDepth 100000
set_option maxHeartbeats 4000000

theorem minI_spec (ρ : PH) (v : Value) (l : List Int) (hv : IntsAt ρ v l) (h0 : 0 < l.length) (hl : l.length ≤ 1000000) :
  Ans Tryz.prog (fv 25) [v] [ρ] (fun r => ∃ z : Int, r = int z ∧ (z < 0 ↔ ∃ x ∈ l, x < 0)) := by
 obtain ⟨q, c, rfl, hr⟩ := hv.val Eng.encI_len
 obtain ⟨b0, o0, rfl, g0⟩ := hr.int (List.getElem?_eq_getElem h0)
 refine spec_in (cap := []) Tryz.func25 rfl rfl Tryz.ntmps25 rfl envZ (fun N β => ?_)
 refine AC ?_
 refine AA ?_
 refine AD ?_
 refine AF ?_
 refine AC ?_
 refine AC ?_
 refine AA ?_
 refine AB ?_
 refine A0 ?_
 refine AZ ?_
 refine AF ?_
 refine AN rfl ?_
 refine AL ?_
 refine AC ?_
 refine AA ?_
 refine AB ?_
 refine BS ?_
 refine AG ?_
 refine AD ?_
 refine AF ?_
 refine AC ?_
 refine AC ?_
 refine AA ?_
 refine AD ?_
 refine AF ?_
 refine AQ ?_
 refine BN [0] (X := Nat × Int) (1, l[0]) (fun x => 1 ≤ x.1 ∧ x.1 ≤ l.length ∧ (x.2 < 0 ↔ ∃ y ∈ l.take x.1, y < 0)) (fun x => [(4, int x.1), (3, int x.2)]) (fun _ => []) (fun x => l.length - x.1) pickZ ⟨by dsimp only; omega, by dsimp only; omega, ?_⟩ covZ selZ ?_
 ·dsimp only
  have e : l.take 1 = [l[0]] := by
   cases l with
   | nil => simp at h0
   | cons a l => rfl
  rw [e]
  simp
 rintro ⟨k, z⟩ ⟨hk1, hk, hI⟩
 dsimp only at hk1 hk hI ⊢
 by_cases hlt : k < l.length
 ·obtain ⟨_, _, e, g1⟩ := hr.int (List.getElem?_eq_getElem hlt)
  simp only [Option.some.injEq, Addr.mk.injEq, and_true] at e
  obtain ⟨rfl, rfl⟩ := e
  have htk := List.take_succ_eq_append_getElem hlt
  generalize l[k] = x at g1 htk
  refine AC ?_
  refine AC ?_
  refine AA ?_
  refine AB ?_
  refine AB ?_
  refine A0 ?_
  refine BF ?_
  refine AF ?_
  refine AO rfl ?_
  refine AL ?_
  refine AC ?_
  refine AQ ?_
  refine AA ?_
  refine AB ?_
  refine AB ?_
  refine AB ?_
  refine BS ?_
  refine AG ?_
  refine C4 ?_
  refine AD ?_
  refine AF ?_
  refine A7 ?_
  refine AA ?_
  refine AB ?_
  refine BA ?_
  refine AD ?_
  refine AF ?_
  refine A4 (k + 1, min z x) ⟨by dsimp only; omega, by dsimp only; omega, ?_⟩ (by dsimp only; omega) covZ selZ
  dsimp only
  rw [htk]
  constructor
  ·intro h
   by_cases hz : z < 0
   ·obtain ⟨y, hy, h2⟩ := hI.1 hz
    exact ⟨y, by simp [hy], h2⟩
   ·exact ⟨x, by simp, by omega⟩
  ·rintro ⟨y, hy, h2⟩
   rcases List.mem_append.1 hy with hy | hy
   ·have := hI.2 ⟨y, hy, h2⟩; omega
   ·simp only [List.mem_singleton] at hy; subst hy; omega
 have hke : k = l.length := by omega
 subst hke
 rw [List.take_length] at hI
 refine AC ?_
 refine AC ?_
 refine AA ?_
 refine AB ?_
 refine AB ?_
 refine A0 ?_
 refine AZ ?_
 refine AF ?_
 refine AN rfl ?_
 refine A8 rfl ?_
 refine AC ?_
 refine AA ?_
 refine AB ?_
 refine AD ?_
 refine AF ?_
 exact AJ (res1 rfl rfl) rsubZ selZ ⟨rfl, z, rfl, hI⟩
theorem between_spec (bt : Nat) (d : Dm) (n : Int) : Ans Tryz.prog (.func (.func 24) #[] #[.pointer (some ⟨bt, 0, none⟩)]) [int n] [sng bt (.cells #[int d.s, int d.d, int d.v, int d.r, int d.e] 31 (0, 0))] (fun r => r = .bool (decide (n ≠ d.s ∧ n ≠ d.d))) := by
 refine spec_in (cap := [.pointer (some ⟨bt, 0, none⟩)]) Tryz.func24 rfl rfl Tryz.ntmps24 rfl envZ (fun N β => ?_)
 have c0 : rdc (sng bt (.cells #[int d.s, int d.d, int d.v, int d.r, int d.e] 31 (0, 0))) bt 0 = some (int d.s) := by rw [rdc_sng]; rfl
 have c1 : rdc (sng bt (.cells #[int d.s, int d.d, int d.v, int d.r, int d.e] 31 (0, 0))) bt 1 = some (int d.d) := by rw [rdc_sng]; rfl
 by_cases h1 : n = d.s
 ·rw [decide_eq_false (fun h => h.1 h1)]
  refine AC ?_
  refine AA ?_
  refine AD ?_
  refine AF ?_
  refine AC ?_
  refine AA ?_
  refine AB ?_
  refine AH ?_
  refine AG ?_
  refine A6 ?_
  refine AB ?_
  refine AE rfl rfl rfl ?_
  refine AE rfl rfl rfl ?_
  refine AE rfl rfl rfl ?_
  refine AE rfl rfl rfl ?_
  refine AI ?_
  refine AD ?_
  refine AF ?_
  exact AJ (res1 rfl rfl) rsubZ selZ ⟨rfl, rfl⟩
 ·by_cases h2 : n = d.d
  ·rw [decide_eq_false (fun h => h.2 h2)]
   refine AC ?_
   refine AA ?_
   refine AD ?_
   refine AF ?_
   refine AC ?_
   refine AA ?_
   refine AB ?_
   refine AH ?_
   refine AG ?_
   refine CC ?_
   refine AB ?_
   refine AB ?_
   refine AH ?_
   refine AG ?_
   refine A6 ?_
   refine AK ?_
   refine AD ?_
   refine AF ?_
   exact AJ (res1 rfl rfl) rsubZ selZ ⟨rfl, rfl⟩
  ·rw [decide_eq_true ⟨h1, h2⟩]
   refine AC ?_
   refine AA ?_
   refine AD ?_
   refine AF ?_
   refine AC ?_
   refine AA ?_
   refine AB ?_
   refine AH ?_
   refine AG ?_
   refine CC ?_
   refine AB ?_
   refine AB ?_
   refine AH ?_
   refine AG ?_
   refine CC ?_
   refine AK ?_
   refine AD ?_
   refine AF ?_
   exact AJ (res1 rfl rfl) rsubZ selZ ⟨rfl, rfl⟩
theorem conf_row (cs : List Ct) (d : Dm) (l : List Sh) (n : Int) (m : Nat) (hm : d.e - d.r + 1 = m) (hm0 : d.r < d.e) :
  anyT (confAt cs d l n) d.r m = true ↔ (∃ x ∈ rowC m (fun k => stock cs d n (d.r + k) l), x < 0) ∨ (n ≠ d.s ∧ n ≠ d.d ∧ stock cs d n d.e l ≠ 0) := by
 unfold anyT confAt
 rw [List.any_eq_true]
 constructor
 ·rintro ⟨k, hk, h⟩
  simp only [List.mem_range] at hk
  rcases of_decide_eq_true h with h | ⟨h1, h2, h3, h4⟩
  ·exact .inl ⟨_, List.mem_map.2 ⟨k, by simpa using hk, rfl⟩, h⟩
  ·rw [h1] at h4
   exact .inr ⟨h2, h3, h4⟩
 ·rintro (⟨x, hx, h⟩ | ⟨h1, h2, h3⟩)
  ·obtain ⟨k, hk, rfl⟩ := List.mem_map.1 hx
   exact ⟨k, hk, decide_eq_true (.inl h)⟩
  ·refine ⟨m - 1, by simp; omega, decide_eq_true (.inr ?_)⟩
   have e : d.r + ((m - 1 : Nat) : Int) = d.e := by omega
   rw [e]
   exact ⟨rfl, h1, h2, h3⟩
end Go.Proofs.YtknfhiolenobaaaGreat
/- Flow. -/
namespace Go.Proofs.YtknfhiolenobaaaGreat
open Go.Eng Go.Step
set_option maxRecDepth 100000
set_option maxHeartbeats 4000000

theorem used_next {x y : Sh} {M : List (List Int × Value)} {a : Bool} (h : mgetS [x.c, x.t] M = if a then some (.bool true) else none) : mgetS [x.c, x.t] (msetS [y.c, y.t] (.bool true) M) = if (a || sameSl x y) then some (.bool true) else none := by
 rw [mgetS_mset, h]
 unfold sameSl
 by_cases e : x.c = y.c ∧ x.t = y.t
 ·rw [decide_eq_true e, Bool.or_true, if_pos rfl, if_pos (by rw [e.1, e.2])]
 ·rw [decide_eq_false e, Bool.or_false, if_neg (fun k => e (by simpa using k))]
set_option maxHeartbeats 64000000 in
theorem certFlow_spec {ρ τ σ υ : PH} (ω : PH) {pq pc pb ph : Option Addr} {kq kc kb kh : Nat} {qs : List Int} {cs : List Ct} {bs : List Bk} {hs : List Hd} (hT : TbAt ρ τ σ υ pq pc pb ph kq kc kb kh qs cs bs hs) (d : Dm) (v : Value) (l : List Sh) (hv : ShAt ω v l) (hll : l.length ≤ 1000000) :
  Ans Tryz.prog (fv 9) [.agg #[.slice pq qs.length kq, .slice pc cs.length kc, .slice pb bs.length kb, .slice ph hs.length kh], .agg #[int d.s, int d.d, int d.v, int d.r, int d.e], v] [ρ, τ, σ, υ, ω] (fun r => r = .tuple #[int (flowR qs cs bs hs d l).1, int (flowR qs cs bs hs d l).2]) := by
 have hv2 := hv
 obtain ⟨q, cc, rfl, hr⟩ := hv.val encX_len
 refine spec_in (cap := []) Tryz.func9 rfl rfl Tryz.ntmps9 rfl envZ (fun N β => ?_)
 refine AC ?_
 refine AA ?_
 refine BT (BV rfl) rfl rfl rfl ?_
 rintro _ _ ⟨b1, rfl, rfl⟩
 refine AV (ρ := sng b1 _) takeZ ?_
 have ct : RdN (sng b1 (.cells #[.slice pq qs.length kq, .slice pc cs.length kc, .slice pb bs.length kb, .slice ph hs.length kh] 29 (0, 0))) b1 0 [.slice pq qs.length kq, .slice pc cs.length kc, .slice pb bs.length kb, .slice ph hs.length kh] := rdN_sng (vs := [.slice pq qs.length kq, .slice pc cs.length kc, .slice pb bs.length kb, .slice ph hs.length kh])
 have ct0 : rdc (sng b1 (.cells #[.slice pq qs.length kq, .slice pc cs.length kc, .slice pb bs.length kb, .slice ph hs.length kh] 29 (0, 0))) b1 0 = some (.slice pq qs.length kq) := by rw [rdc_sng]; rfl
 have ct1 : rdc (sng b1 (.cells #[.slice pq qs.length kq, .slice pc cs.length kc, .slice pb bs.length kb, .slice ph hs.length kh] 29 (0, 0))) b1 1 = some (.slice pc cs.length kc) := by rw [rdc_sng]; rfl
 have ct2 : rdc (sng b1 (.cells #[.slice pq qs.length kq, .slice pc cs.length kc, .slice pb bs.length kb, .slice ph hs.length kh] 29 (0, 0))) b1 2 = some (.slice pb bs.length kb) := by rw [rdc_sng]; rfl
 have ct3 : rdc (sng b1 (.cells #[.slice pq qs.length kq, .slice pc cs.length kc, .slice pb bs.length kb, .slice ph hs.length kh] 29 (0, 0))) b1 3 = some (.slice ph hs.length kh) := by rw [rdc_sng]; rfl
 have ctp : RdP (sng b1 (.cells #[.slice pq qs.length kq, .slice pc cs.length kc, .slice pb bs.length kb, .slice ph hs.length kh] 29 (0, 0))) b1 0 [.slice pq qs.length kq, .slice pc cs.length kc] := rdP_sng (xs := [.slice pq qs.length kq, .slice pc cs.length kc, .slice pb bs.length kb, .slice ph hs.length kh]) rfl
 refine BT (BV rfl) rfl rfl rfl ?_
 rintro _ _ ⟨b2, rfl, rfl⟩
 refine AV (ρ := sng b2 _) takeZ ?_
 have cd : RdN (sng b2 (.cells #[int d.s, int d.d, int d.v, int d.r, int d.e] 31 (0, 0))) b2 0 [int d.s, int d.d, int d.v, int d.r, int d.e] := rdN_sng (vs := [int d.s, int d.d, int d.v, int d.r, int d.e])
 have cd0 : rdc (sng b2 (.cells #[int d.s, int d.d, int d.v, int d.r, int d.e] 31 (0, 0))) b2 0 = some (int d.s) := by rw [rdc_sng]; rfl
 have cd1 : rdc (sng b2 (.cells #[int d.s, int d.d, int d.v, int d.r, int d.e] 31 (0, 0))) b2 1 = some (int d.d) := by rw [rdc_sng]; rfl
 have cd2 : rdc (sng b2 (.cells #[int d.s, int d.d, int d.v, int d.r, int d.e] 31 (0, 0))) b2 2 = some (int d.v) := by rw [rdc_sng]; rfl
 have cd3 : rdc (sng b2 (.cells #[int d.s, int d.d, int d.v, int d.r, int d.e] 31 (0, 0))) b2 3 = some (int d.r) := by rw [rdc_sng]; rfl
 have cd4 : rdc (sng b2 (.cells #[int d.s, int d.d, int d.v, int d.r, int d.e] 31 (0, 0))) b2 4 = some (int d.e) := by rw [rdc_sng]; rfl
 refine AD ?_
 refine AD ?_
 refine AF ?_
 refine AC ?_
 refine AC ?_
 refine AA ?_
 refine AM ?_
 refine AM ?_
 refine AT (certCheck_spec hT d) rfl rfl rdZ rfl rfl ?_
 rintro _ rfl
 cases hval : validT qs cs bs hs d with
 | false =>
  have hR : flowR qs cs bs hs d l = (0, 1) := by unfold flowR; rw [if_pos hval]
  rw [hR, if_neg (by simp)]
  refine AD ?_
  refine AF ?_
  refine AC ?_
  refine AA ?_
  refine AB ?_
  refine CC ?_
  refine AF ?_
  refine AO rfl ?_
  refine AC ?_
  refine AA ?_
  refine AB ?_
  refine AD ?_
  refine AD ?_
  refine AF ?_
  exact AJ (res2 rfl rfl rfl) rsubZ selZ ⟨rfl, rfl⟩
 | true =>
 rw [if_pos rfl]
 obtain ⟨hcs0, hbl, hok, hhl, hql, hquo, hdm, _⟩ := valid_ok hval
 have hcs : ∀ c ∈ cs, chkCt c = 0 := fun c hc => (hcs0 c hc).1
 have hdm2 : 0 ≤ d.r ∧ d.r < d.e ∧ d.e ≤ 1099511627776 ∧ d.e - d.r ≤ 100 := hdm.2.2.2.2
 refine AD ?_
 refine AF ?_
 refine AC ?_
 refine AA ?_
 refine AB ?_
 refine A6 ?_
 refine AF ?_
 refine AN rfl ?_
 refine AL ?_
 refine AC ?_
 refine AA ?_
 focus ((refine' BT _ rfl rfl rfl _; rotate_left; (exact EL); rintro _ _ ⟨b, rfl, rfl⟩))
 refine AD ?_
 refine AF ?_
 refine AC ?_
 refine AC ?_
 refine AA ?_
 refine AB ?_
 refine A0 ?_
 refine AB ?_
 refine AF ?_
 refine AQ ?_
 revert b; intro bm
 refine BN [2, 3, 4, 9, 30, 31] (X := Nat × List (List Int × Value)) (0, []) (fun x => x.1 ≤ l.length ∧ firstE (shipE cs bs d l) x.1 = 0 ∧ (∀ e ∈ x.2, e.1.length = 2) ∧ ∀ y : Sh, mgetS [y.c, y.t] x.2 = if (l.take x.1).any (sameSl y) then some (.bool true) else none) (fun x => [(32, int x.1)]) (fun x => [sng bm (mapS x.2)]) (fun x => l.length - x.1) pickZ ⟨by dsimp only; omega, rfl, by simp, fun y => rfl⟩ covZ selZ ?_
 rintro ⟨k, M⟩ ⟨hk, hI, hM2, hM⟩
 dsimp only at hk hI hM2 hM ⊢
 by_cases hlt : k < l.length
 ·have hx := List.getElem?_eq_getElem hlt
  have hnx := fun y => any_take (sameSl y) hlt
  obtain ⟨b5, o5, rfl, hrx, x0, x1, x2⟩ := shRow hr hx
  have hgood := shipE_good (bs := bs) (cs := cs) (d := d) hx
  have hbad := fun e => shipE_bad (bs := bs) (cs := cs) (d := d) (e := e) hx
  generalize l[k] = x at hrx x0 x1 x2 hnx hgood hbad
  have hck := checkShip_spec hT d x hcs (by omega) hdm2.1
  refine AC ?_
  refine AA ?_
  refine BF ?_
  refine AF ?_
  refine AC ?_
  refine AO rfl ?_
  refine AL ?_
  refine AC ?_
  refine AQ ?_
  refine AC ?_
  refine AA ?_
  refine BC ?_
  refine AM ?_
  refine AW ?_; rintro _ _ ⟨b, rfl, rfl⟩
  refine AU ?_; rintro _ _ ⟨rfl, rfl⟩
  refine AF ?_
  refine AC ?_
  refine AC ?_
  refine AA ?_
  refine AM ?_
  refine AM ?_
  refine AM ?_
  refine AT hck rfl rfl rdZ rfl rfl ?_
  rintro _ rfl
  by_cases h1 : ship1 cs bs d x = 0
  rotate_left
  ·have hE := hbad _ rfl h1
   have hh := firstE_hit hI (by rw [hE]; exact h1) _ hlt
   have hR : flowR qs cs bs hs d l = (0, ship1 cs bs d x) := by unfold flowR; rw [if_neg (by rw [hval]; simp), hh, hE, if_pos h1]
   rw [hR]
   generalize ship1 cs bs d x = z at h1
   refine AD ?_
   refine AF ?_
   refine AC ?_
   refine AA ?_
   refine AB ?_
   refine CC ?_
   refine AF ?_
   refine AO rfl ?_
   refine AC ?_
   refine AA ?_
   refine AB ?_
   refine AD ?_
   refine AD ?_
   refine AF ?_
   exact AJ (res2 rfl rfl rfl) rsubZ selZ ⟨rfl, rfl⟩
  have hE := hgood h1
  rw [h1]
  refine AD ?_
  refine AF ?_
  refine AC ?_
  refine AA ?_
  refine AB ?_
  refine A6 ?_
  refine AF ?_
  refine AN rfl ?_
  refine AL ?_
  refine AC ?_
  refine AA ?_
  refine AH ?_
  refine AG ?_
  refine AH ?_
  refine AG ?_
  refine BO ?_
  refine AW ?_; rintro _ _ ⟨b, rfl, rfl⟩
  refine AU ?_; rintro _ _ ⟨rfl, rfl⟩
  refine AF ?_
  refine AC ?_
  refine AA ?_
  refine AB ?_
  refine AM ?_
  refine CV (E0 2 [x.c, x.t] (l := M) (z := .bool false) rfl rfl rfl ⟨by kernel_rfl, by kernel_rfl⟩ rfl hM2 rfl (mapAtS_own memZ)) rfl rfl rfl ?_
  rw [hM x]
  cases hany : (l.take k).any (sameSl x) with
  | true =>
   rw [hany, if_pos rfl] at hE
   have hh := firstE_hit hI (by rw [hE]; decide) _ hlt
   have hR : flowR qs cs bs hs d l = (0, 14) := by unfold flowR; rw [if_neg (by rw [hval]; simp), hh, hE, if_pos (by decide)]
   rw [hR, if_pos rfl, Option.getD_some]
   refine AF ?_
   refine AO rfl ?_
   refine AC ?_
   refine AA ?_
   refine AD ?_
   refine AD ?_
   refine AF ?_
   exact AJ (res2 rfl rfl rfl) rsubZ selZ ⟨rfl, rfl⟩
  | false =>
   rw [hany, if_neg (by simp)] at hE
   rw [if_neg (by simp), Option.getD_none]
   refine AF ?_
   refine AN rfl ?_
   refine AA ?_
   refine AB ?_
   refine AM ?_
   refine C8 (D9 2 [x.c, x.t] (v := .bool true) (l := M) rfl rfl rfl rfl ⟨by kernel_rfl, by kernel_rfl⟩ rfl hM2 takeZ) rfl rfl ?_
   rintro _ _ ⟨rfl, rfl⟩
   refine AF ?_
   refine A7 ?_
   refine AA ?_
   refine BA ?_
   refine AB ?_
   refine AF ?_
   refine A4 (k + 1, _) ⟨by dsimp only; omega, firstE_ok hI hE, msetS_len rfl hM2, fun y => ?_⟩ (by dsimp only; omega) covZ selZ
   dsimp only
   rw [hnx y]
   exact used_next (hM y)
 have hke : k = l.length := by omega
 subst hke
 have hS := ships_ok hI
 have hR0 : flowR qs cs bs hs d l = if conflB qs.length cs d l then (0, 24) else if fullB qs cs hs d l then (0, 15) else (stock cs d d.d d.e l, 0) := by unfold flowR; rw [if_neg (by rw [hval]; simp), if_neg (fun h => h hI)]
 clear hI hM hM2
 have hbdx : ∀ x ∈ l, 0 ≤ x.n ∧ x.n ≤ 1000 := fun x hx => by
  obtain ⟨nn, c, _, h2, _, h4, _⟩ := ship1_ok (hS x hx)
  have := (chkCt_all (hcs c (List.mem_of_getElem? h2))).2.2.2.1
  omega
 have hbd := fun n t => stock_bd cs d n t l hbdx
 have hstk := stocks_spec ω hT d _ l hv2 hS hcs0 hdm2 hql.2 hll
 obtain ⟨m, hm⟩ : ∃ m : Nat, d.e - d.r + 1 = (m : Int) := ⟨(d.e - d.r + 1).toNat, by omega⟩
 rw [hm, Int.toNat_natCast] at hstk
 refine AC ?_
 refine AA ?_
 refine AZ ?_
 refine AF ?_
 refine AC ?_
 refine AN rfl ?_
 refine A8 rfl ?_
 refine AC ?_
 refine AA ?_
 refine AM ?_
 refine AM ?_
 refine AB ?_
 refine B5 hstk rfl rfl Takes.nil rdZ rfl rfl ?_
 rintro _ _ ⟨B, γ, bsr, rfl, rfl, hTab⟩
 refine AV (ρ := sng B _) takeZ ?_
 refine AV (ρ := γ) takeZ ?_
 have hbl2 : bsr.length = qs.length := by rw [hTab.len, tabC_len]
 have hrow : ∀ n, n < qs.length → ∃ br, rdc (sng B (.cells (rowsV m bsr).toArray 22 (0, 0))) B n = some (.slice (some ⟨br, 0, none⟩) m m) ∧ IntsAt γ (.slice (some ⟨br, 0, none⟩) m m) (rowC m (fun k => stock cs d n (d.r + k) l)) ∧ ∀ k, k < m → rdc γ br k = some (int (stock cs d n (d.r + k) l)) := fun n hn => by
  have hbr := List.getElem?_eq_getElem (show n < bsr.length by omega)
  have hrw := tabC_get (d := d) (m := m) (l := chAll cs l) hn
  have e : rowC m (fun k => chS d n k (chAll cs l)) = rowC m (fun k => stock cs d n (d.r + k) l) := rowC_congr (fun k _ => chS_stock cs d n k l)
  rw [e] at hrw
  refine ⟨bsr[n], ?_, ?_, fun k hk => hTab.cell hbr hrw (rowC_get hk)⟩
  ·rw [rdc_sng]
   simp [rowsV, hbr]
  ·have := hTab.ints (c := m) hbr hrw
   rw [rowC_len] at this
   exact this
 obtain ⟨la, hla⟩ : ∃ la : Nat, d.e - d.r = (la : Int) := ⟨(d.e - d.r).toNat, by omega⟩
 have hml : m = la + 1 := by omega
 have hend : d.r + (la : Int) = d.e := by omega
 have hmt : (d.e - d.r + 1).toNat = m := by omega
 have hlt3 : (d.e - d.r).toNat = la := by omega
 refine AD ?_
 refine AF ?_
 refine AC ?_
 refine AA ?_
 refine AH ?_
 refine AG ?_
 refine AH ?_
 refine AG ?_
 refine CG ?_
 refine AD ?_
 refine AF ?_
 refine AC ?_
 refine AA ?_
 refine A9 ?_
 refine AD ?_
 refine AF ?_
 refine AC ?_
 refine AC ?_
 refine AA ?_
 refine AB ?_
 refine A0 ?_
 refine AB ?_
 refine AF ?_
 refine AQ ?_
 rw [hla]
 refine BN [3, 4, 14, 15, 16, 64, 65] (0 : Nat) (fun n => n ≤ qs.length ∧ anyT (fun n => anyT (confAt cs d l n) d.r m) 0 n = false) (fun n => [(66, int n)]) (fun _ => []) (fun n => qs.length - n) pickZ ⟨by omega, by rfl⟩ covZ Sel.nil ?_
 rintro n ⟨hn, hIn⟩
 by_cases hnq : n < qs.length
 ·obtain ⟨br, gB, hints, hcell⟩ := hrow n hnq
  have hconf := conf_row cs d l n m hm hdm2.2.1
  have hyes : anyT (confAt cs d l n) d.r m = true → flowR qs cs bs hs d l = (0, 24) := fun h => by
   rw [hR0, if_pos]
   unfold conflB
   rw [hmt]
   refine anyT_hit (k := n) hnq ?_
   rw [show (0 : Int) + (n : Int) = n by omega]
   exact h
  have hnx := anyT_succ (fun n => anyT (confAt cs d l n) d.r m) 0 n
  rw [hIn, Bool.false_or, show (0 : Int) + (n : Int) = n by omega] at hnx
  have hcl := hcell la (by omega)
  rw [hend] at hcl
  have hmin := minI_spec γ _ _ hints (by rw [rowC_len]; omega) (by rw [rowC_len]; omega)
  refine AC ?_
  refine AA ?_
  refine BF ?_
  refine AF ?_
  refine AC ?_
  refine AO rfl ?_
  refine AL ?_
  refine AC ?_
  refine AQ ?_
  refine AC ?_
  refine AA ?_
  refine AB ?_
  refine BU ?_
  refine AG ?_
  refine AD ?_
  refine AD ?_
  refine AF ?_
  refine AC ?_
  refine AA ?_
  refine AB ?_
  refine AT hmin rfl rfl rdZ rfl rfl ?_
  rintro _ ⟨z, rfl, hz⟩
  by_cases hz0 : z < 0
  ·rw [hyes (hconf.2 (.inl (hz.1 hz0)))]
   refine BF ?_
   refine AB ?_
   refine AE rfl rfl rfl ?_
   refine AE rfl rfl rfl ?_
   refine AE rfl rfl rfl ?_
   refine AE rfl rfl rfl ?_
   refine AE rfl rfl rfl ?_
   refine AE rfl rfl rfl ?_
   refine AE rfl rfl rfl ?_
   refine AE rfl rfl rfl ?_
   refine AE rfl rfl rfl ?_
   refine AE rfl rfl rfl ?_
   refine AK ?_
   refine AF ?_
   refine AO rfl ?_
   refine AC ?_
   refine AA ?_
   refine AD ?_
   refine AD ?_
   refine AF ?_
   exact AJ (res2 rfl rfl rfl) rsubZ selZ ⟨rfl, rfl⟩
  by_cases hbt : (n : Int) ≠ d.s ∧ (n : Int) ≠ d.d
  ·have hB := decide_eq_true hbt
   by_cases hst0 : stock cs d n d.e l = 0
   ·have hno : anyT (confAt cs d l n) d.r m = false := by
     rw [← Bool.not_eq_true]
     intro h
     rcases hconf.1 h with h | h
     ·exact hz0 (hz.2 h)
     ·exact h.2.2 hst0
    rw [hno] at hnx
    generalize stock cs d n d.e l = S at hcl hst0
    refine AZ ?_
    refine AB ?_
    refine AB ?_
    refine AB ?_
    focus ((refine AT (between_spec b2 d _) rfl rfl rdZ rfl rfl ?_; rintro _ rfl; rw [hB]))
    refine AB ?_
    refine AB ?_
    refine AB ?_
    refine BU ?_
    refine AG ?_
    refine A6 ?_
    refine AK ?_
    refine AI ?_
    refine AF ?_
    refine AN rfl ?_
    refine AL ?_
    refine A7 ?_
    refine AA ?_
    refine BA ?_
    refine AB ?_
    refine AF ?_
    exact A4 (n + 1) ⟨by omega, hnx⟩ (by omega) covZ selZ
   ·rw [hyes (hconf.2 (.inr ⟨hbt.1, hbt.2, hst0⟩))]
    generalize stock cs d n d.e l = S at hcl hst0
    refine AZ ?_
    refine AB ?_
    refine AB ?_
    refine AB ?_
    focus ((refine AT (between_spec b2 d _) rfl rfl rdZ rfl rfl ?_; rintro _ rfl; rw [hB]))
    refine AB ?_
    refine AB ?_
    refine AB ?_
    refine BU ?_
    refine AG ?_
    refine CC ?_
    refine AK ?_
    refine AI ?_
    refine AF ?_
    refine AO rfl ?_
    refine AC ?_
    refine AA ?_
    refine AD ?_
    refine AD ?_
    refine AF ?_
    exact AJ (res2 rfl rfl rfl) rsubZ selZ ⟨rfl, rfl⟩
  ·have hB := decide_eq_false hbt
   have hno : anyT (confAt cs d l n) d.r m = false := by
    rw [← Bool.not_eq_true]
    intro h
    rcases hconf.1 h with h | h
    ·exact hz0 (hz.2 h)
    ·exact hbt ⟨h.1, h.2.1⟩
   rw [hno] at hnx
   refine AZ ?_
   refine AB ?_
   refine AB ?_
   refine AB ?_
   focus ((refine AT (between_spec b2 d _) rfl rfl rdZ rfl rfl ?_; rintro _ rfl; rw [hB]))
   refine AB ?_
   refine AE rfl rfl rfl ?_
   refine AE rfl rfl rfl ?_
   refine AE rfl rfl rfl ?_
   refine AE rfl rfl rfl ?_
   refine AE rfl rfl rfl ?_
   refine AI ?_
   refine AI ?_
   refine AF ?_
   refine AN rfl ?_
   refine AL ?_
   refine A7 ?_
   refine AA ?_
   refine BA ?_
   refine AB ?_
   refine AF ?_
   exact A4 (n + 1) ⟨by omega, hnx⟩ (by omega) covZ selZ
 have hne : n = qs.length := by omega
 subst hne
 have hconf0 : conflB qs.length cs d l = false := by unfold conflB; rw [hmt]; exact hIn
 rw [hconf0, if_neg (by simp)] at hR0
 clear hIn
 refine AC ?_
 refine AA ?_
 refine AZ ?_
 refine AF ?_
 refine AC ?_
 refine AN rfl ?_
 refine A8 rfl ?_
 refine AC ?_
 refine AC ?_
 refine AA ?_
 refine AB ?_
 refine A0 ?_
 refine AB ?_
 refine AF ?_
 refine AQ ?_
 refine BN [3, 4, 14, 15, 16, 87, 88] (0 : Nat) (fun n => n ≤ qs.length ∧ anyT (fun n => anyT (fullAt qs cs hs d l n) d.r la) 0 n = false) (fun n => [(89, int n)]) (fun _ => []) (fun n => qs.length - n) pickZ ⟨by omega, by rfl⟩ covZ selZ ?_
 rintro n ⟨hn, hIn⟩
 by_cases hnq : n < qs.length
 ·obtain ⟨br, gB, hints, hcell⟩ := hrow n hnq
  have hQx := List.getElem?_eq_getElem hnq
  have hroom := fun t => certRoom_spec hT n t _ hQx (hquo n _ hQx) hok (by omega)
  refine AC ?_
  refine AA ?_
  refine BF ?_
  refine AF ?_
  refine AC ?_
  refine AO rfl ?_
  refine AL ?_
  refine AC ?_
  refine AQ ?_
  refine AC ?_
  refine AA ?_
  refine AB ?_
  refine BU ?_
  refine AG ?_
  refine AD ?_
  refine AD ?_
  refine AF ?_
  refine AC ?_
  refine AA ?_
  refine AB ?_
  refine AB ?_
  refine CA ?_
  refine A0 ?_
  refine AB ?_
  refine AF ?_
  refine AQ ?_
  rw [cutP_zero]
  refine BN [3, 4, 14, 15, 16, 19, 87, 88, 89, 96, 97] (0 : Nat) (fun j => j ≤ la ∧ anyT (fullAt qs cs hs d l n) d.r j = false) (fun j => [(98, int j)]) (fun _ => []) (fun j => la - j) pickZ ⟨by omega, by rfl⟩ covZ selZ ?_
  rintro j ⟨hj, hIj⟩
  by_cases hjl : j < la
  ·have hnx := anyT_succ (fullAt qs cs hs d l n) d.r j
   rw [hIj, Bool.false_or] at hnx
   have hcl := hcell j (by omega)
   have hb2 := hbd n (d.r + j)
   have hyes : fullAt qs cs hs d l n (d.r + j) = true → flowR qs cs bs hs d l = (0, 15) := fun h => by
    rw [hR0, if_pos]
    unfold fullB
    rw [hlt3]
    refine anyT_hit (k := n) hnq ?_
    rw [show (0 : Int) + (n : Int) = n by omega]
    exact anyT_hit (k := j) hjl h
   have hroom2 := hroom (d.r + j)
   have hfe : fullAt qs cs hs d l n (d.r + j) = decide ((if (n : Int) = d.s ∨ (n : Int) = d.d then 1099511627776 else qs.getD (n : Int).toNat 0 - Step.stored hs n (d.r + j)) < stock cs d n (d.r + j) l) := rfl
   rw [hfe] at hnx hyes
   by_cases hbt : (n : Int) ≠ d.s ∧ (n : Int) ≠ d.d
   ·have hB := decide_eq_true hbt
    rw [if_neg (by omega), Int.toNat_natCast, List.getD_eq_getElem?_getD, hQx, Option.getD_some] at hnx hyes
    generalize stock cs d n (d.r + j) l = S at hcl hb2 hnx hyes
    generalize qs[n] - Step.stored hs n (d.r + j) = Rm at hroom2 hnx hyes
    refine AC ?_
    refine AA ?_
    refine BF ?_
    refine AF ?_
    refine AC ?_
    refine AO rfl ?_
    refine AL ?_
    refine AC ?_
    refine AQ ?_
    refine AC ?_
    refine AA ?_
    refine AB ?_
    refine BU ?_
    refine AG ?_
    refine AD ?_
    refine AD ?_
    refine AF ?_
    refine AC ?_
    refine AA ?_
    refine AB ?_
    refine AB ?_
    focus ((refine AT (between_spec b2 d _) rfl rfl rdZ rfl rfl ?_; rintro _ rfl; rw [hB]))
    refine AB ?_
    refine AB ?_
    refine AM ?_
    refine AB ?_
    refine AH ?_
    refine AG ?_
    refine AB ?_
    refine B8 ?_
    refine AT hroom2 rfl rfl rdZ rfl rfl ?_
    rintro _ rfl
    by_cases c1 : Rm < S
    ·rw [hyes (decide_eq_true c1)]
     refine CM ?_
     refine AK ?_
     refine AF ?_
     refine AO rfl ?_
     refine AC ?_
     refine AA ?_
     refine AD ?_
     refine AD ?_
     refine AF ?_
     exact AJ (res2 rfl rfl rfl) rsubZ selZ ⟨rfl, rfl⟩
    ·rw [decide_eq_false c1] at hnx
     refine BL ?_
     refine AK ?_
     refine AF ?_
     refine AN rfl ?_
     refine AL ?_
     refine A7 ?_
     refine AA ?_
     refine BA ?_
     refine AB ?_
     refine AF ?_
     exact A4 (j + 1) ⟨by omega, hnx⟩ (by omega) covZ selZ
   ·have hB := decide_eq_false hbt
    rw [if_pos (by omega), decide_eq_false (by omega)] at hnx
    generalize stock cs d n (d.r + j) l = S at hcl hb2
    refine AC ?_
    refine AA ?_
    refine BF ?_
    refine AF ?_
    refine AC ?_
    refine AO rfl ?_
    refine AL ?_
    refine AC ?_
    refine AQ ?_
    refine AC ?_
    refine AA ?_
    refine AB ?_
    refine BU ?_
    refine AG ?_
    refine AD ?_
    refine AD ?_
    refine AF ?_
    refine AC ?_
    refine AA ?_
    refine AB ?_
    refine AB ?_
    focus ((refine AT (between_spec b2 d _) rfl rfl rdZ rfl rfl ?_; rintro _ rfl; rw [hB]))
    refine AB ?_
    refine AE rfl rfl rfl ?_
    refine AE rfl rfl rfl ?_
    refine AE rfl rfl rfl ?_
    refine AE rfl rfl rfl ?_
    refine AE rfl rfl rfl ?_
    refine AE rfl rfl rfl ?_
    refine AE rfl rfl rfl ?_
    refine AE rfl rfl rfl ?_
    refine AE rfl rfl rfl ?_
    refine AI ?_
    refine AF ?_
    refine AN rfl ?_
    refine AL ?_
    refine A7 ?_
    refine AA ?_
    refine BA ?_
    refine AB ?_
    refine AF ?_
    exact A4 (j + 1) ⟨by omega, hnx⟩ (by omega) covZ selZ
  ·have hje : j = la := by omega
   subst hje
   have hnx := anyT_succ (fun n => anyT (fullAt qs cs hs d l n) d.r j) 0 n
   rw [hIn, Bool.false_or, show (0 : Int) + (n : Int) = n by omega, hIj] at hnx
   refine AC ?_
   refine AA ?_
   refine AZ ?_
   refine AF ?_
   refine AC ?_
   refine AN rfl ?_
   refine A8 rfl ?_
   refine A7 ?_
   refine AA ?_
   refine BA ?_
   refine AB ?_
   refine AF ?_
   exact A4 (n + 1) ⟨by omega, hnx⟩ (by omega) covZ selZ
 have hne : n = qs.length := by omega
 subst hne
 have hfull0 : fullB qs cs hs d l = false := by unfold fullB; rw [hlt3]; exact hIn
 rw [hfull0, if_neg (by simp)] at hR0
 rw [hR0]
 have hdd0 := hdm.2.1
 obtain ⟨dd, hdd⟩ : ∃ dd : Nat, d.d = dd := ⟨d.d.toNat, by omega⟩
 obtain ⟨br, gB, hints, hcell⟩ := hrow dd (by omega)
 have hcl := hcell la (by omega)
 rw [hend, ← hdd] at hcl
 have cdn : rdc (sng b2 (.cells #[int d.s, int d.d, int d.v, int d.r, int d.e] 31 (0, 0))) b2 1 = some (int dd) := by rw [rdc_sng, ← hdd]; rfl
 clear cd1
 refine AC ?_
 refine AA ?_
 refine AZ ?_
 refine AF ?_
 refine AC ?_
 refine AN rfl ?_
 refine A8 rfl ?_
 refine AC ?_
 refine AA ?_
 refine AB ?_
 refine AH ?_
 refine AG ?_
 refine BU ?_
 refine AG ?_
 refine AB ?_
 refine BU ?_
 refine AG ?_
 refine AD ?_
 refine AD ?_
 refine AF ?_
 exact AJ (res2 rfl rfl rfl) rsubZ selZ ⟨rfl, rfl⟩
end Go.Proofs.YtknfhiolenobaaaGreat
/- Answers checked. -/
namespace Go.Proofs.YtknfhiolenobaaaGreat
open Go.Eng Go.Step
set_option maxRecDepth 100000
set_option maxHeartbeats 4000000

set_option maxHeartbeats 32000000 in
theorem certChk_spec {ρ τ σ υ : PH} (ω : PH) {pq pc pb ph : Option Addr} {kq kc kb kh : Nat} {qs : List Int} {cs : List Ct} {bs : List Bk} {hs : List Hd} (hT : TbAt ρ τ σ υ pq pc pb ph kq kc kb kh qs cs bs hs) (γ κ : PH) (d : Dm) (acc : Bool) (vol : Int) (q : Option Addr) (kl : Nat) (l : List Sh) (hv : ShAt ω (.slice q l.length kl) l) (hll : l.length ≤ 1000000) (p : Option Addr) (kk : Nat) (c : Cu) (hc : CutRow γ κ p c) (hcl : c.length ≤ 9223372036854775807) :
  Ans Tryz.prog (fv 12) [.agg #[.slice pq qs.length kq, .slice pc cs.length kc, .slice pb bs.length kb, .slice ph hs.length kh], .agg #[int d.s, int d.d, int d.v, int d.r, int d.e], .agg #[.bool acc, int vol, .slice q l.length kl, .slice p c.length kk]] [ρ, τ, σ, υ, ω, γ, κ] (fun r => r = int (checkR qs cs bs hs d acc vol l c)) := by
 refine spec_in (cap := []) Tryz.func12 rfl rfl Tryz.ntmps12 rfl envZ (fun N β => ?_)
 refine AC ?_
 refine AA ?_
 refine BT (BV rfl) rfl rfl rfl ?_
 rintro _ _ ⟨b1, rfl, rfl⟩
 refine AV (ρ := sng b1 _) takeZ ?_
 have ct : RdN (sng b1 (.cells #[.slice pq qs.length kq, .slice pc cs.length kc, .slice pb bs.length kb, .slice ph hs.length kh] 29 (0, 0))) b1 0 [.slice pq qs.length kq, .slice pc cs.length kc, .slice pb bs.length kb, .slice ph hs.length kh] := rdN_sng (vs := [.slice pq qs.length kq, .slice pc cs.length kc, .slice pb bs.length kb, .slice ph hs.length kh])
 have ct0 : rdc (sng b1 (.cells #[.slice pq qs.length kq, .slice pc cs.length kc, .slice pb bs.length kb, .slice ph hs.length kh] 29 (0, 0))) b1 0 = some (.slice pq qs.length kq) := by rw [rdc_sng]; rfl
 have ct1 : rdc (sng b1 (.cells #[.slice pq qs.length kq, .slice pc cs.length kc, .slice pb bs.length kb, .slice ph hs.length kh] 29 (0, 0))) b1 1 = some (.slice pc cs.length kc) := by rw [rdc_sng]; rfl
 have ct2 : rdc (sng b1 (.cells #[.slice pq qs.length kq, .slice pc cs.length kc, .slice pb bs.length kb, .slice ph hs.length kh] 29 (0, 0))) b1 2 = some (.slice pb bs.length kb) := by rw [rdc_sng]; rfl
 have ct3 : rdc (sng b1 (.cells #[.slice pq qs.length kq, .slice pc cs.length kc, .slice pb bs.length kb, .slice ph hs.length kh] 29 (0, 0))) b1 3 = some (.slice ph hs.length kh) := by rw [rdc_sng]; rfl
 have ctp : RdP (sng b1 (.cells #[.slice pq qs.length kq, .slice pc cs.length kc, .slice pb bs.length kb, .slice ph hs.length kh] 29 (0, 0))) b1 0 [.slice pq qs.length kq, .slice pc cs.length kc] := rdP_sng (xs := [.slice pq qs.length kq, .slice pc cs.length kc, .slice pb bs.length kb, .slice ph hs.length kh]) rfl
 refine BT (BV rfl) rfl rfl rfl ?_
 rintro _ _ ⟨b2, rfl, rfl⟩
 refine AV (ρ := sng b2 _) takeZ ?_
 have cd : RdN (sng b2 (.cells #[int d.s, int d.d, int d.v, int d.r, int d.e] 31 (0, 0))) b2 0 [int d.s, int d.d, int d.v, int d.r, int d.e] := rdN_sng (vs := [int d.s, int d.d, int d.v, int d.r, int d.e])
 have cd0 : rdc (sng b2 (.cells #[int d.s, int d.d, int d.v, int d.r, int d.e] 31 (0, 0))) b2 0 = some (int d.s) := by rw [rdc_sng]; rfl
 have cd1 : rdc (sng b2 (.cells #[int d.s, int d.d, int d.v, int d.r, int d.e] 31 (0, 0))) b2 1 = some (int d.d) := by rw [rdc_sng]; rfl
 have cd2 : rdc (sng b2 (.cells #[int d.s, int d.d, int d.v, int d.r, int d.e] 31 (0, 0))) b2 2 = some (int d.v) := by rw [rdc_sng]; rfl
 have cd3 : rdc (sng b2 (.cells #[int d.s, int d.d, int d.v, int d.r, int d.e] 31 (0, 0))) b2 3 = some (int d.r) := by rw [rdc_sng]; rfl
 have cd4 : rdc (sng b2 (.cells #[int d.s, int d.d, int d.v, int d.r, int d.e] 31 (0, 0))) b2 4 = some (int d.e) := by rw [rdc_sng]; rfl
 refine BT (BV rfl) rfl rfl rfl ?_
 rintro _ _ ⟨b3, rfl, rfl⟩
 refine AV (ρ := sng b3 _) takeZ ?_
 have ca : RdN (sng b3 (.cells #[.bool acc, int vol, .slice q l.length kl, .slice p c.length kk] 36 (0, 0))) b3 0 [.bool acc, int vol, .slice q l.length kl, .slice p c.length kk] := rdN_sng (vs := [.bool acc, int vol, .slice q l.length kl, .slice p c.length kk])
 have ca0 : rdc (sng b3 (.cells #[.bool acc, int vol, .slice q l.length kl, .slice p c.length kk] 36 (0, 0))) b3 0 = some (.bool acc) := by rw [rdc_sng]; rfl
 have ca1 : rdc (sng b3 (.cells #[.bool acc, int vol, .slice q l.length kl, .slice p c.length kk] 36 (0, 0))) b3 1 = some (int vol) := by rw [rdc_sng]; rfl
 have ca2 : rdc (sng b3 (.cells #[.bool acc, int vol, .slice q l.length kl, .slice p c.length kk] 36 (0, 0))) b3 2 = some (.slice q l.length kl) := by rw [rdc_sng]; rfl
 have ca3 : rdc (sng b3 (.cells #[.bool acc, int vol, .slice q l.length kl, .slice p c.length kk] 36 (0, 0))) b3 3 = some (.slice p c.length kk) := by rw [rdc_sng]; rfl
 cases acc with
 | true =>
  have hR : checkR qs cs bs hs d true vol l c = if (flowR qs cs bs hs d l).2 ≠ 0 then (flowR qs cs bs hs d l).2 else if (flowR qs cs bs hs d l).1 ≠ d.v ∨ vol ≠ d.v ∨ 0 < c.length then 26 else 0 := rfl
  rw [hR]
  refine AD ?_
  refine AF ?_
  refine AC ?_
  refine AC ?_
  refine AA ?_
  refine AH ?_
  refine AG ?_
  refine AF ?_
  refine AO rfl ?_
  refine AC ?_
  refine AA ?_
  refine AM ?_
  refine AM ?_
  refine AH ?_
  refine AG ?_
  refine AT (certFlow_spec ω hT d _ l hv hll) rfl rfl rdZ rfl rfl ?_
  rintro _ rfl
  generalize (flowR qs cs bs hs d l).1 = z1
  generalize (flowR qs cs bs hs d l).2 = z2
  by_cases h0 : z2 = 0
  rotate_left
  ·rw [if_pos h0]
   refine AB ?_
   refine AP ?_
   refine AP ?_
   refine AD ?_
   refine AD ?_
   refine AF ?_
   refine AC ?_
   refine AC ?_
   refine AA ?_
   refine AB ?_
   refine CC ?_
   refine AF ?_
   refine AO rfl ?_
   refine AC ?_
   refine AA ?_
   refine AB ?_
   refine AD ?_
   refine AF ?_
   exact AJ (res1 rfl rfl) rsubZ selZ ⟨rfl, rfl⟩
  rw [if_neg (fun h => h h0)]
  by_cases h1 : z1 = d.v
  rotate_left
  ·rw [if_pos (.inl h1)]
   refine AB ?_
   refine AP ?_
   refine AP ?_
   refine AD ?_
   refine AD ?_
   refine AF ?_
   refine AC ?_
   refine AC ?_
   refine AA ?_
   refine AB ?_
   refine A6 ?_
   refine AF ?_
   refine AN rfl ?_
   refine AL ?_
   refine AC ?_
   refine AC ?_
   refine AA ?_
   refine AB ?_
   refine AH ?_
   refine AG ?_
   refine CC ?_
   refine AB ?_
   refine AE rfl rfl rfl ?_
   refine AE rfl rfl rfl ?_
   refine AE rfl rfl rfl ?_
   refine AE rfl rfl rfl ?_
   refine AE rfl rfl rfl ?_
   refine AK ?_
   refine AB ?_
   refine AE rfl rfl rfl ?_
   refine AE rfl rfl rfl ?_
   refine AE rfl rfl rfl ?_
   refine AE rfl rfl rfl ?_
   refine AK ?_
   refine AF ?_
   refine AO rfl ?_
   refine AC ?_
   refine AA ?_
   refine AD ?_
   refine AF ?_
   exact AJ (res1 rfl rfl) rsubZ selZ ⟨rfl, rfl⟩
  by_cases h2 : vol = d.v
  rotate_left
  ·rw [if_pos (.inr (.inl h2))]
   refine AB ?_
   refine AP ?_
   refine AP ?_
   refine AD ?_
   refine AD ?_
   refine AF ?_
   refine AC ?_
   refine AC ?_
   refine AA ?_
   refine AB ?_
   refine A6 ?_
   refine AF ?_
   refine AN rfl ?_
   refine AL ?_
   refine AC ?_
   refine AC ?_
   refine AA ?_
   refine AB ?_
   refine AH ?_
   refine AG ?_
   refine A6 ?_
   refine AB ?_
   refine AH ?_
   refine AG ?_
   refine AH ?_
   refine AG ?_
   refine CC ?_
   refine AI ?_
   refine AB ?_
   refine AE rfl rfl rfl ?_
   refine AE rfl rfl rfl ?_
   refine AE rfl rfl rfl ?_
   refine AE rfl rfl rfl ?_
   refine AK ?_
   refine AF ?_
   refine AO rfl ?_
   refine AC ?_
   refine AA ?_
   refine AD ?_
   refine AF ?_
   exact AJ (res1 rfl rfl) rsubZ selZ ⟨rfl, rfl⟩
  by_cases h3 : 0 < c.length
  ·rw [if_pos (.inr (.inr h3))]
   refine AB ?_
   refine AP ?_
   refine AP ?_
   refine AD ?_
   refine AD ?_
   refine AF ?_
   refine AC ?_
   refine AC ?_
   refine AA ?_
   refine AB ?_
   refine A6 ?_
   refine AF ?_
   refine AN rfl ?_
   refine AL ?_
   refine AC ?_
   refine AC ?_
   refine AA ?_
   refine AB ?_
   refine AH ?_
   refine AG ?_
   refine A6 ?_
   refine AB ?_
   refine AH ?_
   refine AG ?_
   refine AH ?_
   refine AG ?_
   refine A6 ?_
   refine AI ?_
   refine AB ?_
   refine AH ?_
   refine AG ?_
   refine A0 ?_
   refine CM ?_
   refine AI ?_
   refine AF ?_
   refine AO rfl ?_
   refine AC ?_
   refine AA ?_
   refine AD ?_
   refine AF ?_
   exact AJ (res1 rfl rfl) rsubZ selZ ⟨rfl, rfl⟩
  rw [if_neg (by omega)]
  refine AB ?_
  refine AP ?_
  refine AP ?_
  refine AD ?_
  refine AD ?_
  refine AF ?_
  refine AC ?_
  refine AC ?_
  refine AA ?_
  refine AB ?_
  refine A6 ?_
  refine AF ?_
  refine AN rfl ?_
  refine AL ?_
  refine AC ?_
  refine AC ?_
  refine AA ?_
  refine AB ?_
  refine AH ?_
  refine AG ?_
  refine A6 ?_
  refine AB ?_
  refine AH ?_
  refine AG ?_
  refine AH ?_
  refine AG ?_
  refine A6 ?_
  refine AI ?_
  refine AB ?_
  refine AH ?_
  refine AG ?_
  refine A0 ?_
  refine BL ?_
  refine AI ?_
  refine AF ?_
  refine AN rfl ?_
  refine AL ?_
  refine AC ?_
  refine AA ?_
  refine AD ?_
  refine AF ?_
  exact AJ (res1 rfl rfl) rsubZ selZ ⟨rfl, rfl⟩
 | false =>
  have hR : checkR qs cs bs hs d false vol l c = if (capR qs cs bs hs d c).2 ≠ 0 then (capR qs cs bs hs d c).2 else if (capR qs cs bs hs d c).1 ≠ vol ∨ d.v ≤ (capR qs cs bs hs d c).1 ∨ 0 < l.length then 26 else 0 := rfl
  rw [hR]
  refine AD ?_
  refine AF ?_
  refine AC ?_
  refine AC ?_
  refine AA ?_
  refine AH ?_
  refine AG ?_
  refine AF ?_
  refine AN rfl ?_
  refine AL ?_
  refine AC ?_
  refine AA ?_
  refine AM ?_
  refine AM ?_
  refine AH ?_
  refine AG ?_
  refine AT (certCap_spec hT γ κ d p kk c hc hcl) rfl rfl rdZ rfl rfl ?_
  rintro _ rfl
  generalize (capR qs cs bs hs d c).1 = z1
  generalize (capR qs cs bs hs d c).2 = z2
  by_cases h0 : z2 = 0
  rotate_left
  ·rw [if_pos h0]
   refine AB ?_
   refine AP ?_
   refine AP ?_
   refine AD ?_
   refine AD ?_
   refine AF ?_
   refine AC ?_
   refine AC ?_
   refine AA ?_
   refine AB ?_
   refine CC ?_
   refine AF ?_
   refine AO rfl ?_
   refine AC ?_
   refine AA ?_
   refine AB ?_
   refine AD ?_
   refine AF ?_
   exact AJ (res1 rfl rfl) rsubZ selZ ⟨rfl, rfl⟩
  rw [if_neg (fun h => h h0)]
  by_cases h1 : z1 = vol
  rotate_left
  ·rw [if_pos (.inl h1)]
   refine AB ?_
   refine AP ?_
   refine AP ?_
   refine AD ?_
   refine AD ?_
   refine AF ?_
   refine AC ?_
   refine AC ?_
   refine AA ?_
   refine AB ?_
   refine A6 ?_
   refine AF ?_
   refine AN rfl ?_
   refine AL ?_
   refine AC ?_
   refine AC ?_
   refine AA ?_
   refine AB ?_
   refine AH ?_
   refine AG ?_
   refine CC ?_
   refine AB ?_
   refine AE rfl rfl rfl ?_
   refine AE rfl rfl rfl ?_
   refine AE rfl rfl rfl ?_
   refine AE rfl rfl rfl ?_
   refine AK ?_
   refine AB ?_
   refine AE rfl rfl rfl ?_
   refine AE rfl rfl rfl ?_
   refine AE rfl rfl rfl ?_
   refine AE rfl rfl rfl ?_
   refine AK ?_
   refine AF ?_
   refine AO rfl ?_
   refine AC ?_
   refine AA ?_
   refine AD ?_
   refine AF ?_
   exact AJ (res1 rfl rfl) rsubZ selZ ⟨rfl, rfl⟩
  by_cases h2 : d.v ≤ z1
  ·rw [if_pos (.inr (.inl h2))]
   refine AB ?_
   refine AP ?_
   refine AP ?_
   refine AD ?_
   refine AD ?_
   refine AF ?_
   refine AC ?_
   refine AC ?_
   refine AA ?_
   refine AB ?_
   refine A6 ?_
   refine AF ?_
   refine AN rfl ?_
   refine AL ?_
   refine AC ?_
   refine AC ?_
   refine AA ?_
   refine AB ?_
   refine AH ?_
   refine AG ?_
   refine A6 ?_
   refine AB ?_
   refine AB ?_
   refine AH ?_
   refine AG ?_
   refine CF ?_
   refine AI ?_
   refine AB ?_
   refine AE rfl rfl rfl ?_
   refine AE rfl rfl rfl ?_
   refine AE rfl rfl rfl ?_
   refine AE rfl rfl rfl ?_
   refine AK ?_
   refine AF ?_
   refine AO rfl ?_
   refine AC ?_
   refine AA ?_
   refine AD ?_
   refine AF ?_
   exact AJ (res1 rfl rfl) rsubZ selZ ⟨rfl, rfl⟩
  by_cases h3 : 0 < l.length
  ·rw [if_pos (.inr (.inr h3))]
   refine AB ?_
   refine AP ?_
   refine AP ?_
   refine AD ?_
   refine AD ?_
   refine AF ?_
   refine AC ?_
   refine AC ?_
   refine AA ?_
   refine AB ?_
   refine A6 ?_
   refine AF ?_
   refine AN rfl ?_
   refine AL ?_
   refine AC ?_
   refine AC ?_
   refine AA ?_
   refine AB ?_
   refine AH ?_
   refine AG ?_
   refine A6 ?_
   refine AB ?_
   refine AB ?_
   refine AH ?_
   refine AG ?_
   refine BI ?_
   refine AI ?_
   refine AB ?_
   refine AH ?_
   refine AG ?_
   refine A0 ?_
   refine CM ?_
   refine AI ?_
   refine AF ?_
   refine AO rfl ?_
   refine AC ?_
   refine AA ?_
   refine AD ?_
   refine AF ?_
   exact AJ (res1 rfl rfl) rsubZ selZ ⟨rfl, rfl⟩
  rw [if_neg (by omega)]
  refine AB ?_
  refine AP ?_
  refine AP ?_
  refine AD ?_
  refine AD ?_
  refine AF ?_
  refine AC ?_
  refine AC ?_
  refine AA ?_
  refine AB ?_
  refine A6 ?_
  refine AF ?_
  refine AN rfl ?_
  refine AL ?_
  refine AC ?_
  refine AC ?_
  refine AA ?_
  refine AB ?_
  refine AH ?_
  refine AG ?_
  refine A6 ?_
  refine AB ?_
  refine AB ?_
  refine AH ?_
  refine AG ?_
  refine BI ?_
  refine AI ?_
  refine AB ?_
  refine AH ?_
  refine AG ?_
  refine A0 ?_
  refine BL ?_
  refine AI ?_
  refine AF ?_
  refine AN rfl ?_
  refine AL ?_
  refine AC ?_
  refine AA ?_
  refine AD ?_
  refine AF ?_
  exact AJ (res1 rfl rfl) rsubZ selZ ⟨rfl, rfl⟩
end Go.Proofs.YtknfhiolenobaaaGreat
/- Sizes that the statements examine. -/
namespace Go.Proofs.YtknfhiolenobaaaGreat
open Go.Eng Go.Step
set_option maxRecDepth 100000
set_option maxHeartbeats 4000000

theorem greatPlanp_spec (pq pc : Option Addr) (kq kc nq nc : Nat) : Ans Tryz.prog (fv 47) [.agg #[.slice pq nq kq, .slice pc nc kc]] [] (fun r => r = .bool (decide (6 < nq ∨ 10 < nc))) := by
 refine spec_in (cap := []) Tryz.func47 rfl rfl Tryz.ntmps47 rfl envZ (fun N β => ?_)
 refine AC ?_
 refine AA ?_
 refine BT (BV rfl) rfl rfl rfl ?_
 rintro _ _ ⟨b1, rfl, rfl⟩
 refine AV (ρ := sng b1 _) takeZ ?_
 have c : RdN (sng b1 (.cells #[.slice pq nq kq, .slice pc nc kc] 25 (0, 0))) b1 0 [.slice pq nq kq, .slice pc nc kc] := rdN_sng (vs := [.slice pq nq kq, .slice pc nc kc])
 have c0 : rdc (sng b1 (.cells #[.slice pq nq kq, .slice pc nc kc] 25 (0, 0))) b1 0 = some (.slice pq nq kq) := by rw [rdc_sng]; rfl
 have c1 : rdc (sng b1 (.cells #[.slice pq nq kq, .slice pc nc kc] 25 (0, 0))) b1 1 = some (.slice pc nc kc) := by rw [rdc_sng]; rfl
 by_cases h1 : 6 < nq
 ·rw [decide_eq_true (.inl h1)]
  refine AD ?_
  refine AF ?_
  refine AC ?_
  refine AA ?_
  refine AH ?_
  refine AG ?_
  refine A0 ?_
  refine CM ?_
  refine AB ?_
  refine AE rfl rfl rfl ?_
  refine AE rfl rfl rfl ?_
  refine AE rfl rfl rfl ?_
  refine AE rfl rfl rfl ?_
  refine AK ?_
  refine AD ?_
  refine AF ?_
  exact AJ (res1 rfl rfl) rsubZ selZ ⟨rfl, rfl⟩
 by_cases h2 : 10 < nc
 ·rw [decide_eq_true (.inr h2)]
  refine AD ?_
  refine AF ?_
  refine AC ?_
  refine AA ?_
  refine AH ?_
  refine AG ?_
  refine A0 ?_
  refine BL ?_
  refine AB ?_
  refine AH ?_
  refine AG ?_
  refine A0 ?_
  refine CM ?_
  refine AI ?_
  refine AD ?_
  refine AF ?_
  exact AJ (res1 rfl rfl) rsubZ selZ ⟨rfl, rfl⟩
 rw [decide_eq_false (by omega)]
 refine AD ?_
 refine AF ?_
 refine AC ?_
 refine AA ?_
 refine AH ?_
 refine AG ?_
 refine A0 ?_
 refine BL ?_
 refine AB ?_
 refine AH ?_
 refine AG ?_
 refine A0 ?_
 refine BL ?_
 refine AI ?_
 refine AD ?_
 refine AF ?_
 exact AJ (res1 rfl rfl) rsubZ selZ ⟨rfl, rfl⟩
set_option maxHeartbeats 16000000 in
theorem great29p_spec (pq pc pb ph : Option Addr) (kq kc kb kh nq nc nb nh : Nat) : Ans Tryz.prog (fv 19) [.agg #[.slice pq nq kq, .slice pc nc kc, .slice pb nb kb, .slice ph nh kh]] [] (fun r => r = .bool (decide (6 < nq ∨ 10 < nc ∨ 30 < nb ∨ 30 < nh))) := by
 refine spec_in (cap := []) Tryz.func19 rfl rfl Tryz.ntmps19 rfl envZ (fun N β => ?_)
 refine AC ?_
 refine AA ?_
 refine BT (BV rfl) rfl rfl rfl ?_
 rintro _ _ ⟨b1, rfl, rfl⟩
 refine AV (ρ := sng b1 _) takeZ ?_
 have c : RdN (sng b1 (.cells #[.slice pq nq kq, .slice pc nc kc, .slice pb nb kb, .slice ph nh kh] 29 (0, 0))) b1 0 [.slice pq nq kq, .slice pc nc kc, .slice pb nb kb, .slice ph nh kh] := rdN_sng (vs := [.slice pq nq kq, .slice pc nc kc, .slice pb nb kb, .slice ph nh kh])
 have c0 : rdc (sng b1 (.cells #[.slice pq nq kq, .slice pc nc kc, .slice pb nb kb, .slice ph nh kh] 29 (0, 0))) b1 0 = some (.slice pq nq kq) := by rw [rdc_sng]; rfl
 have c1 : rdc (sng b1 (.cells #[.slice pq nq kq, .slice pc nc kc, .slice pb nb kb, .slice ph nh kh] 29 (0, 0))) b1 1 = some (.slice pc nc kc) := by rw [rdc_sng]; rfl
 have c2 : rdc (sng b1 (.cells #[.slice pq nq kq, .slice pc nc kc, .slice pb nb kb, .slice ph nh kh] 29 (0, 0))) b1 2 = some (.slice pb nb kb) := by rw [rdc_sng]; rfl
 have c3 : rdc (sng b1 (.cells #[.slice pq nq kq, .slice pc nc kc, .slice pb nb kb, .slice ph nh kh] 29 (0, 0))) b1 3 = some (.slice ph nh kh) := by rw [rdc_sng]; rfl
 have ctp : RdP (sng b1 (.cells #[.slice pq nq kq, .slice pc nc kc, .slice pb nb kb, .slice ph nh kh] 29 (0, 0))) b1 0 [.slice pq nq kq, .slice pc nc kc] := rdP_sng (xs := [.slice pq nq kq, .slice pc nc kc, .slice pb nb kb, .slice ph nh kh]) rfl
 refine AD ?_
 refine AF ?_
 refine AC ?_
 refine AA ?_
 refine AH ?_
 refine AM ?_
 refine AT (greatPlanp_spec pq pc kq kc nq nc) rfl rfl rdZ rfl rfl ?_
 rintro _ rfl
 by_cases h1 : 6 < nq ∨ 10 < nc
 ·rw [decide_eq_true h1, decide_eq_true (by omega)]
  refine AB ?_
  refine AE rfl rfl rfl ?_
  refine AE rfl rfl rfl ?_
  refine AE rfl rfl rfl ?_
  refine AE rfl rfl rfl ?_
  refine AK ?_
  refine AB ?_
  refine AE rfl rfl rfl ?_
  refine AE rfl rfl rfl ?_
  refine AE rfl rfl rfl ?_
  refine AE rfl rfl rfl ?_
  refine AK ?_
  refine AD ?_
  refine AF ?_
  exact AJ (res1 rfl rfl) rsubZ selZ ⟨rfl, rfl⟩
 rw [decide_eq_false h1]
 by_cases h2 : 30 < nb
 ·rw [decide_eq_true (by omega)]
  refine AB ?_
  refine AH ?_
  refine AG ?_
  refine A0 ?_
  refine CM ?_
  refine AI ?_
  refine AB ?_
  refine AE rfl rfl rfl ?_
  refine AE rfl rfl rfl ?_
  refine AE rfl rfl rfl ?_
  refine AE rfl rfl rfl ?_
  refine AK ?_
  refine AD ?_
  refine AF ?_
  exact AJ (res1 rfl rfl) rsubZ selZ ⟨rfl, rfl⟩
 by_cases h3 : 30 < nh
 ·rw [decide_eq_true (by omega)]
  refine AB ?_
  refine AH ?_
  refine AG ?_
  refine A0 ?_
  refine BL ?_
  refine AI ?_
  refine AB ?_
  refine AH ?_
  refine AG ?_
  refine A0 ?_
  refine CM ?_
  refine AI ?_
  refine AD ?_
  refine AF ?_
  exact AJ (res1 rfl rfl) rsubZ selZ ⟨rfl, rfl⟩
 rw [decide_eq_false (by omega)]
 refine AB ?_
 refine AH ?_
 refine AG ?_
 refine A0 ?_
 refine BL ?_
 refine AI ?_
 refine AB ?_
 refine AH ?_
 refine AG ?_
 refine A0 ?_
 refine BL ?_
 refine AI ?_
 refine AD ?_
 refine AF ?_
 exact AJ (res1 rfl rfl) rsubZ selZ ⟨rfl, rfl⟩
theorem refGreatC_spec (γ κ : PH) (p : Option Addr) (kk : Nat) (c : Cu) (hc : CutRow γ κ p c) (hcl : c.length ≤ 9223372036854775807) : Ans Tryz.prog (fv 7) [.slice p c.length kk] [γ] (fun r => r = .bool (greatC c)) := by
 refine spec_in (cap := []) Tryz.func7 rfl rfl Tryz.ntmps7 rfl envZ (fun N β => ?_)
 by_cases h8 : 8 < c.length
 ·have hR : greatC c = true := by unfold greatC; rw [decide_eq_true h8]; rfl
  rw [hR]
  refine AC ?_
  refine AA ?_
  refine AD ?_
  refine AF ?_
  refine AC ?_
  refine AC ?_
  refine AA ?_
  refine AB ?_
  refine A0 ?_
  refine CM ?_
  refine AF ?_
  refine AO rfl ?_
  refine AC ?_
  refine AA ?_
  refine AD ?_
  refine AF ?_
  exact AJ (res1 rfl rfl) rsubZ selZ ⟨rfl, rfl⟩
 have hR0 : greatC c = c.any (fun l => decide (20 < l.length)) := by unfold greatC; rw [decide_eq_false h8, Bool.false_or]
 rw [hR0]
 refine AC ?_
 refine AA ?_
 refine AD ?_
 refine AF ?_
 refine AC ?_
 refine AC ?_
 refine AA ?_
 refine AB ?_
 refine A0 ?_
 refine BL ?_
 refine AF ?_
 refine AN rfl ?_
 refine AL ?_
 refine AC ?_
 refine AC ?_
 refine AA ?_
 refine AD ?_
 refine AF ?_
 refine AQ ?_
 refine BN [0, 2] (0 : Nat) (fun i => i ≤ c.length ∧ (c.take i).any (fun l => decide (20 < l.length)) = false) (fun i => [(3, int i)]) (fun _ => []) (fun i => c.length - i) pickZ ⟨by omega, rfl⟩ covZ selZ ?_
 rintro i ⟨hi, hI⟩
 by_cases hlt : i < c.length
 ·have hnx := any_take (fun l : List (Int × Int) => decide (20 < l.length)) hlt
  rw [hI, Bool.false_or] at hnx
  obtain ⟨b, o, q, k, rfl, g, hs, hl⟩ := hc i _ (List.getElem?_eq_getElem hlt)
  have hyes : 20 < c[i].length → c.any (fun l => decide (20 < l.length)) = true := fun h => List.any_eq_true.2 ⟨_, List.getElem_mem hlt, decide_eq_true h⟩
  generalize c[i] = l at hnx hs hl hyes g
  by_cases h20 : 20 < l.length
  ·rw [hyes h20]
   refine AC ?_
   refine AC ?_
   refine AA ?_
   refine AB ?_
   refine AB ?_
   refine A0 ?_
   refine BF ?_
   refine AF ?_
   refine AO rfl ?_
   refine AL ?_
   refine AC ?_
   refine AQ ?_
   refine AC ?_
   refine AA ?_
   refine AB ?_
   refine AB ?_
   refine BS ?_
   refine AG ?_
   refine A0 ?_
   refine CM ?_
   refine AF ?_
   refine AO rfl ?_
   refine AC ?_
   refine AA ?_
   refine AD ?_
   refine AF ?_
   exact AJ (res1 rfl rfl) rsubZ selZ ⟨rfl, rfl⟩
  ·rw [decide_eq_false h20] at hnx
   refine AC ?_
   refine AC ?_
   refine AA ?_
   refine AB ?_
   refine AB ?_
   refine A0 ?_
   refine BF ?_
   refine AF ?_
   refine AO rfl ?_
   refine AL ?_
   refine AC ?_
   refine AQ ?_
   refine AC ?_
   refine AA ?_
   refine AB ?_
   refine AB ?_
   refine BS ?_
   refine AG ?_
   refine A0 ?_
   refine BL ?_
   refine AF ?_
   refine AN rfl ?_
   refine AL ?_
   refine A7 ?_
   refine AA ?_
   refine AB ?_
   refine BA ?_
   refine AD ?_
   refine AF ?_
   exact A4 (i + 1) ⟨by omega, hnx⟩ (by omega) covZ selZ
 have hie : i = c.length := by omega
 subst hie
 rw [List.take_length] at hI
 rw [hI]
 refine AC ?_
 refine AC ?_
 refine AA ?_
 refine AB ?_
 refine AB ?_
 refine A0 ?_
 refine AZ ?_
 refine AF ?_
 refine AN rfl ?_
 refine A8 rfl ?_
 refine AC ?_
 refine AA ?_
 refine AD ?_
 refine AF ?_
 exact AJ (res1 rfl rfl) rsubZ selZ ⟨rfl, rfl⟩
set_option maxHeartbeats 16000000 in
theorem great55_spec (pq pc pb ph q : Option Addr) (kq kc kb kh kl nq nc nb nh n : Nat) (d : Dm) : Ans Tryz.prog (fv 6) [.agg #[.slice pq nq kq, .slice pc nc kc, .slice pb nb kb, .slice ph nh kh], .agg #[int d.s, int d.d, int d.v, int d.r, int d.e], .slice q n kl] [] (fun r => ∃ b, r = .bool b ∧ (b = false → (nq ≤ 6 ∧ nc ≤ 10 ∧ nb ≤ 30 ∧ nh ≤ 30) ∧ n ≤ 60)) := by
 refine spec_in (cap := []) Tryz.func6 rfl rfl Tryz.ntmps6 rfl envZ (fun N β => ?_)
 refine AC ?_
 refine AA ?_
 refine BT (BV rfl) rfl rfl rfl ?_
 rintro _ _ ⟨b1, rfl, rfl⟩
 refine AV (ρ := sng b1 _) takeZ ?_
 have c : RdN (sng b1 (.cells #[.slice pq nq kq, .slice pc nc kc, .slice pb nb kb, .slice ph nh kh] 29 (0, 0))) b1 0 [.slice pq nq kq, .slice pc nc kc, .slice pb nb kb, .slice ph nh kh] := rdN_sng (vs := [.slice pq nq kq, .slice pc nc kc, .slice pb nb kb, .slice ph nh kh])
 refine BT (BV rfl) rfl rfl rfl ?_
 rintro _ _ ⟨b2, rfl, rfl⟩
 refine AV (ρ := sng b2 _) takeZ ?_
 have cd : RdN (sng b2 (.cells #[int d.s, int d.d, int d.v, int d.r, int d.e] 31 (0, 0))) b2 0 [int d.s, int d.d, int d.v, int d.r, int d.e] := rdN_sng (vs := [int d.s, int d.d, int d.v, int d.r, int d.e])
 have cd0 : rdc (sng b2 (.cells #[int d.s, int d.d, int d.v, int d.r, int d.e] 31 (0, 0))) b2 0 = some (int d.s) := by rw [rdc_sng]; rfl
 have cd1 : rdc (sng b2 (.cells #[int d.s, int d.d, int d.v, int d.r, int d.e] 31 (0, 0))) b2 1 = some (int d.d) := by rw [rdc_sng]; rfl
 have cd2 : rdc (sng b2 (.cells #[int d.s, int d.d, int d.v, int d.r, int d.e] 31 (0, 0))) b2 2 = some (int d.v) := by rw [rdc_sng]; rfl
 have cd3 : rdc (sng b2 (.cells #[int d.s, int d.d, int d.v, int d.r, int d.e] 31 (0, 0))) b2 3 = some (int d.r) := by rw [rdc_sng]; rfl
 have cd4 : rdc (sng b2 (.cells #[int d.s, int d.d, int d.v, int d.r, int d.e] 31 (0, 0))) b2 4 = some (int d.e) := by rw [rdc_sng]; rfl
 refine AD ?_
 refine AF ?_
 refine AC ?_
 refine AA ?_
 refine AM ?_
 refine AT (great29p_spec pq pc pb ph kq kc kb kh nq nc nb nh) rfl rfl rdZ rfl rfl ?_
 rintro _ rfl
 by_cases h1 : 6 < nq ∨ 10 < nc ∨ 30 < nb ∨ 30 < nh
 ·rw [decide_eq_true h1]
  refine AB ?_
  refine AE rfl rfl rfl ?_
  refine AE rfl rfl rfl ?_
  refine AE rfl rfl rfl ?_
  refine AE rfl rfl rfl ?_
  refine AE rfl rfl rfl ?_
  refine AE rfl rfl rfl ?_
  refine AE rfl rfl rfl ?_
  refine AE rfl rfl rfl ?_
  refine AE rfl rfl rfl ?_
  refine AE rfl rfl rfl ?_
  refine AE rfl rfl rfl ?_
  refine AE rfl rfl rfl ?_
  refine AE rfl rfl rfl ?_
  refine AE rfl rfl rfl ?_
  refine AK ?_
  refine AB ?_
  refine AE rfl rfl rfl ?_
  refine AE rfl rfl rfl ?_
  refine AE rfl rfl rfl ?_
  refine AK ?_
  refine AD ?_
  refine AF ?_
  exact AJ (res1 rfl rfl) rsubZ selZ ⟨rfl, true, rfl, fun h => by simp at h⟩
 rw [decide_eq_false h1]
 obtain ⟨w1, hw1⟩ : ∃ w1, w1 = IntKind.i64.wrap (d.r + 30) := ⟨_, rfl⟩
 obtain ⟨w2, hw2⟩ : ∃ w2, w2 = IntKind.i64.wrap (d.r + 100) := ⟨_, rfl⟩
 by_cases h2 : w1 < d.e
 ·by_cases h3 : d.e ≤ w2
  ·refine AB ?_
   refine AH ?_
   refine AG ?_
   refine AH ?_
   refine AG ?_
   focus ((refine CV (EB rfl rfl) rfl rfl rfl ?_; first | rw [← hw1] | rw [← hw2]))
   refine CM ?_
   refine AB ?_
   refine AH ?_
   refine AG ?_
   refine AH ?_
   refine AG ?_
   focus ((refine CV (EB rfl rfl) rfl rfl rfl ?_; first | rw [← hw1] | rw [← hw2]))
   refine CU ?_
   refine AK ?_
   refine AI ?_
   refine AB ?_
   refine AE rfl rfl rfl ?_
   refine AE rfl rfl rfl ?_
   refine AE rfl rfl rfl ?_
   refine AK ?_
   refine AD ?_
   refine AF ?_
   exact AJ (res1 rfl rfl) rsubZ selZ ⟨rfl, true, rfl, fun h => by simp at h⟩
  ·by_cases h4 : 60 < n
   ·refine AB ?_
    refine AH ?_
    refine AG ?_
    refine AH ?_
    refine AG ?_
    focus ((refine CV (EB rfl rfl) rfl rfl rfl ?_; first | rw [← hw1] | rw [← hw2]))
    refine CM ?_
    refine AB ?_
    refine AH ?_
    refine AG ?_
    refine AH ?_
    refine AG ?_
    focus ((refine CV (EB rfl rfl) rfl rfl rfl ?_; first | rw [← hw1] | rw [← hw2]))
    refine CD ?_
    refine AK ?_
    refine AI ?_
    refine AB ?_
    refine AB ?_
    refine A0 ?_
    refine CM ?_
    refine AI ?_
    refine AD ?_
    refine AF ?_
    exact AJ (res1 rfl rfl) rsubZ selZ ⟨rfl, true, rfl, fun h => by simp at h⟩
   ·refine AB ?_
    refine AH ?_
    refine AG ?_
    refine AH ?_
    refine AG ?_
    focus ((refine CV (EB rfl rfl) rfl rfl rfl ?_; first | rw [← hw1] | rw [← hw2]))
    refine CM ?_
    refine AB ?_
    refine AH ?_
    refine AG ?_
    refine AH ?_
    refine AG ?_
    focus ((refine CV (EB rfl rfl) rfl rfl rfl ?_; first | rw [← hw1] | rw [← hw2]))
    refine CD ?_
    refine AK ?_
    refine AI ?_
    refine AB ?_
    refine AB ?_
    refine A0 ?_
    refine BL ?_
    refine AI ?_
    refine AD ?_
    refine AF ?_
    exact AJ (res1 rfl rfl) rsubZ selZ ⟨rfl, false, rfl, fun _ => by omega⟩
 ·by_cases h4 : 60 < n
  ·refine AB ?_
   refine AH ?_
   refine AG ?_
   refine AH ?_
   refine AG ?_
   focus ((refine CV (EB rfl rfl) rfl rfl rfl ?_; first | rw [← hw1] | rw [← hw2]))
   refine BL ?_
   refine AB ?_
   refine AE rfl rfl rfl ?_
   refine AE rfl rfl rfl ?_
   refine AE rfl rfl rfl ?_
   refine AE rfl rfl rfl ?_
   refine AE rfl rfl rfl ?_
   refine AE rfl rfl rfl ?_
   refine AI ?_
   refine AI ?_
   refine AB ?_
   refine AB ?_
   refine A0 ?_
   refine CM ?_
   refine AI ?_
   refine AD ?_
   refine AF ?_
   exact AJ (res1 rfl rfl) rsubZ selZ ⟨rfl, true, rfl, fun h => by simp at h⟩
  ·refine AB ?_
   refine AH ?_
   refine AG ?_
   refine AH ?_
   refine AG ?_
   focus ((refine CV (EB rfl rfl) rfl rfl rfl ?_; first | rw [← hw1] | rw [← hw2]))
   refine BL ?_
   refine AB ?_
   refine AE rfl rfl rfl ?_
   refine AE rfl rfl rfl ?_
   refine AE rfl rfl rfl ?_
   refine AE rfl rfl rfl ?_
   refine AE rfl rfl rfl ?_
   refine AE rfl rfl rfl ?_
   refine AI ?_
   refine AI ?_
   refine AB ?_
   refine AB ?_
   refine A0 ?_
   refine BL ?_
   refine AI ?_
   refine AD ?_
   refine AF ?_
   exact AJ (res1 rfl rfl) rsubZ selZ ⟨rfl, false, rfl, fun _ => by omega⟩
end Go.Proofs.YtknfhiolenobaaaGreat
/- The example; the laws on flows and answers. -/
namespace Go.Proofs.YtknfhiolenobaaaGreat
open Go.Eng Go.Step
set_option maxRecDepth 100000
set_option maxHeartbeats 4000000

def exQ : List Int := [9, 9]
def exC : List Ct := [⟨0, 1, 0, 10, 4, 2, 0⟩]
def exD : Dm := ⟨0, 1, 13, 0, 5⟩
def exL : List Sh := [⟨0, 0, 4⟩, ⟨0, 1, 4⟩, ⟨0, 2, 4⟩]
def exK : Cu := [[(0, 6)], []]
theorem ex_flow : flowR exQ exC [] [] exD exL = (12, 0) := by decide +kernel
theorem ex_cap : capR exQ exC [] [] exD exK = (12, 0) := by decide +kernel
theorem ex_chk : checkR exQ exC [] [] exD false 12 [] exK = 0 := by decide +kernel
theorem example_spec : Eng.Spec Tryz.prog (fv 20) [] [] [] (fun r H' => ∃ bq bc, r = .tuple #[.agg #[.slice (some ⟨bq, 0, none⟩) 2 2, .slice (some ⟨bc, 0, none⟩) 1 1, .slice none 0 0, .slice none 0 0], .agg #[int 0, int 1, int 13, int 0, int 5]] ∧ H' = [sng bq (.cells #[int 9, int 9] 3 (0, 0)), sng bc (.cells #[int 0, int 1, int 0, int 10, int 4, int 2, int 0] 85 (0, 0))]) := by
 refine spec_in (cap := []) Tryz.func20 rfl rfl Tryz.ntmps20 rfl envZ (fun N β => ?_)
 refine AC ?_
 refine AA ?_
 refine AW ?_; rintro _ _ ⟨b, rfl, rfl⟩
 refine AW ?_; rintro _ _ ⟨b, rfl, rfl⟩
 refine AF ?_
 refine AC ?_
 refine AA ?_
 refine A5 ?_; rintro _ _ ⟨b, rfl, rfl⟩
 refine BO ?_
 focus ((refine' BT _ rfl rfl rfl _; rotate_left; (focus (apply DO; exact rfl; exact rfl; exact rfl; exact rfl; exact rfl; exact (by (repeat (first | exact (fun v hv => absurd hv List.not_mem_nil) | (refine List.forall_mem_cons.2 ⟨?_, ?_⟩; (focus (first | exact rfl | assumption))))); first | done | fail); exact Flat.agg7 Flat.nil; exact rfl)); rintro _ _ ⟨b, rfl, rfl⟩))
 refine BO ?_
 refine AW ?_; rintro _ _ ⟨b, rfl, rfl⟩
 refine AU ?_; rintro _ _ ⟨rfl, rfl⟩
 refine AF ?_
 refine AC ?_
 refine AA ?_
 refine AM ?_
 revert b; intro bp
 revert b; intro bc
 revert b; intro bq
 revert b; intro bd
 revert b; intro bt
 refine CV (EC (out := [.slice (some ⟨bq, 0, none⟩) 2 2, .slice (some ⟨bc, 0, none⟩) 1 1, .slice none 0 0, .slice none 0 0]) rfl rfl rfl rfl rfl) rfl rfl rfl ?_
 refine BO ?_
 refine AU ?_; rintro _ _ ⟨rfl, rfl⟩
 refine AU ?_; rintro _ _ ⟨rfl, rfl⟩
 refine AF ?_
 exact AJ (resS2 (b1 := bt) (b2 := bd) (T := 29) (U := 31) (v1 := [.slice (some ⟨bq, 0, none⟩) 2 2, .slice (some ⟨bc, 0, none⟩) 1 1, .slice none 0 0, .slice none 0 0]) (v2 := [int 0, int 1, int 13, int 0, int 5]) rfl rfl rfl rfl rfl rfl rfl (cells_own memZ) (cells_own memZ)) rsubZ selZ ⟨bq, bc, rfl, rfl⟩
set_option maxHeartbeats 16000000 in
theorem awake55_spec : Ans Tryz.prog (fv 8) [] [] (fun r => r = .bool true) := by
 refine spec_in (cap := []) Tryz.func8 rfl rfl Tryz.ntmps8 rfl envZ (fun N β => ?_)
 refine DG ?_
 refine AC ?_
 refine AA ?_
 refine AD ?_
 refine AF ?_
 refine AC ?_
 refine AA ?_
 refine B5 example_spec rfl rfl Takes.nil rdZ rfl rfl ?_
 rintro _ _ ⟨bq, bc, rfl, rfl⟩
 refine AB ?_
 refine AP ?_
 refine AP ?_
 refine AW ?_; rintro _ _ ⟨b, rfl, rfl⟩
 refine AW ?_; rintro _ _ ⟨b, rfl, rfl⟩
 refine AU ?_; rintro _ _ ⟨rfl, rfl⟩
 refine AU ?_; rintro _ _ ⟨rfl, rfl⟩
 refine AF ?_
 refine AC ?_
 refine AA ?_
 refine AM ?_
 refine AM ?_
 refine BO ?_
 refine BO ?_
 refine BO ?_
 refine A5 ?_; rintro _ _ ⟨b, rfl, rfl⟩
 revert b; intro bs
 revert b; intro bd
 revert b; intro bt
 have hT : TbAt (sng bq (.cells #[int 9, int 9] 3 (0, 0))) (sng bc (.cells #[int 0, int 1, int 0, int 10, int 4, int 2, int 0] 85 (0, 0))) emp emp (some ⟨bq, 0, none⟩) (some ⟨bc, 0, none⟩) none none 2 1 0 0 exQ exC [] [] :=
  ⟨slE_sng (l := exQ) Eng.encI_len, slE_sng (l := exC) encC_len, by decide, by decide, by decide, ⟨rfl, .inl ⟨rfl, none, 0, rfl⟩⟩, by decide, ⟨rfl, .inl ⟨rfl, none, 0, rfl⟩⟩, by decide⟩
 have hv : ShAt (sng bs (.cells #[int 0, int 0, int 4, int 0, int 1, int 4, int 0, int 2, int 4] 68 (0, 0))) (.slice (some ⟨bs, 0, none⟩) 3 3) exL := slE_sng (l := exL) encX_len
 have h1 := certFlow_spec _ hT exD _ exL hv (by decide)
 rw [ex_flow] at h1
 refine AT h1 rfl rfl rdZ rfl rfl ?_
 rintro _ rfl
 refine AB ?_
 refine AP ?_
 refine AP ?_
 refine AD ?_
 refine AD ?_
 refine AF ?_
 refine AC ?_
 refine AA ?_
 refine AM ?_
 refine AM ?_
 refine BO ?_
 refine A5 ?_; rintro _ _ ⟨b, rfl, rfl⟩
 refine A5 ?_; rintro _ _ ⟨b, rfl, rfl⟩
 revert b; intro bk
 revert b; intro bx
 have hc : CutRow (sng bk (.cells #[.slice (some ⟨bx, 0, none⟩) 1 1, .slice none 0 0] 64 (0, 0))) (sng bx (.cells #[int 0, int 6] 70 (0, 0))) (some ⟨bk, 0, none⟩) exK := fun i l hl => by
  match i, hl with
  | 0, hl =>
   obtain rfl : [(0, 6)] = l := by simpa [exK] using hl
   exact ⟨bk, 0, some ⟨bx, 0, none⟩, 1, rfl, by rw [rdc_sng]; rfl, slE_sng (l := [((0 : Int), (6 : Int))]) encS_len, by decide⟩
  | 1, hl =>
   obtain rfl : [] = l := by simpa [exK] using hl
   exact ⟨bk, 0, none, 0, rfl, by rw [rdc_sng]; rfl, ⟨rfl, .inl ⟨rfl, none, 0, rfl⟩⟩, by decide⟩
  | i + 2, hl => simp [exK] at hl
 have h2 := certCap_spec hT _ _ exD _ 2 exK hc (by decide)
 rw [ex_cap] at h2
 refine AT h2 rfl rfl rdZ rfl rfl ?_
 rintro _ rfl
 refine AB ?_
 refine AP ?_
 refine AP ?_
 refine AD ?_
 refine AD ?_
 refine AF ?_
 refine AC ?_
 refine AA ?_
 refine AM ?_
 refine AM ?_
 refine BO ?_
 refine A5 ?_; rintro _ _ ⟨b, rfl, rfl⟩
 refine A5 ?_; rintro _ _ ⟨b, rfl, rfl⟩
 refine BO ?_
 revert b; intro bk2
 revert b; intro bx2
 have hc2 : CutRow (sng bk2 (.cells #[.slice (some ⟨bx2, 0, none⟩) 1 1, .slice none 0 0] 64 (0, 0))) (sng bx2 (.cells #[int 0, int 6] 70 (0, 0))) (some ⟨bk2, 0, none⟩) exK := fun i l hl => by
  match i, hl with
  | 0, hl =>
   obtain rfl : [(0, 6)] = l := by simpa [exK] using hl
   exact ⟨bk2, 0, some ⟨bx2, 0, none⟩, 1, rfl, by rw [rdc_sng]; rfl, slE_sng (l := [((0 : Int), (6 : Int))]) encS_len, by decide⟩
  | 1, hl =>
   obtain rfl : [] = l := by simpa [exK] using hl
   exact ⟨bk2, 0, none, 0, rfl, by rw [rdc_sng]; rfl, ⟨rfl, .inl ⟨rfl, none, 0, rfl⟩⟩, by decide⟩
  | i + 2, hl => simp [exK] at hl
 have hv0 : ShAt emp (.slice none 0 0) [] := ⟨rfl, .inl ⟨rfl, none, 0, rfl⟩⟩
 have h3 := certChk_spec emp hT _ _ exD false 12 none 0 [] hv0 (by decide) _ 2 exK hc2 (by decide)
 rw [ex_chk] at h3
 refine AT h3 rfl rfl rdZ rfl rfl ?_
 rintro _ rfl
 refine AD ?_
 refine AF ?_
 refine AC ?_
 refine AA ?_
 refine AB ?_
 refine B7 ?_
 refine AB ?_
 refine AB ?_
 refine B7 ?_
 refine AK ?_
 refine AB ?_
 refine AB ?_
 refine B7 ?_
 refine AK ?_
 refine AB ?_
 refine AB ?_
 refine B7 ?_
 refine AK ?_
 refine AB ?_
 refine AB ?_
 refine B7 ?_
 refine AK ?_
 refine AD ?_
 refine AF ?_
 exact AJ (res1 rfl rfl) rsubZ selZ ⟨rfl, rfl⟩
end Go.Proofs.YtknfhiolenobaaaGreat
/- Maximum flows as shipments; cuts of sets. No program in sight. No conditions. -/
namespace Go.Step
open Go.Flow (Flw fval)
variable {qs : List Int} {cs : List Ct} {bs : List Bk} {hs : List Hd} {d : Dm}
end Go.Step
