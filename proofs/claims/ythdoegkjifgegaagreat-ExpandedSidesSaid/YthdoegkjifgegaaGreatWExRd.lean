/- Texts of this proof, one after the other; no conditions. -/
import Derived.Test.YthdoegkjifgegaaGreatWB11
import Derived.Test.YthdoegkjifgegaaGreatWB12
import Derived.Test.YthdoegkjifgegaaGreatWB3
import Derived.Test.YthdoegkjifgegaaGreatWB2
import Derived.Test.YthdoegkjifgegaaGreatWB10
import Derived.Test.YthdoegkjifgegaaGreatWB6
set_option linter.all false
/- Distances found level by level, over all links again and again; the first link that leads nearer; what is reached by n rounds. No program in sight. No conditions. -/
namespace Go.Flow
structure LInv (n t : Nat) (E : Lk → Prop) (D : List Int) (d : Nat) (pre : List Lk) : Prop where
  len : D.length = n
  low : ∀ v, v < n → -1 ≤ D.getD v 0
  hi : ∀ v, v < n → D.getD v 0 ≤ (d : Int) + 1
  at0 : D.getD t 0 = 0
  zero : ∀ v, v < n → D.getD v 0 = 0 → v = t
  step : ∀ v, v < n → 0 < D.getD v 0 → ∃ x, E x ∧ x.f = v ∧ D.getD x.t 0 = D.getD v 0 - 1
  old : ∀ x, E x → 0 ≤ D.getD x.t 0 → D.getD x.t 0 < (d : Int) → 0 ≤ D.getD x.f 0 ∧ D.getD x.f 0 ≤ D.getD x.t 0 + 1
  pre0 : ∀ x ∈ pre, E x → D.getD x.t 0 = (d : Int) → 0 ≤ D.getD x.f 0
section
variable {n t : Nat} {E : Lk → Prop} {D : List Int} {d : Nat}
theorem LInv.start (ht : t < n) : LInv n t E ((List.replicate n (-1)).set t 0) 0 [] ∧ ∀ v, v < n → ((List.replicate n (-1 : Int)).set t 0).getD v 0 ≤ ((0 : Nat) : Int) := by
  have hg : ∀ v, v < n → ((List.replicate n (-1 : Int)).set t 0).getD v 0 = if t = v then 0 else -1 := fun v hv => by
    rw [getD_set (by simpa using ht)]
    split
    · rfl
    · exact getD_rep hv _
  have hlt : ∀ v, v < n → ((List.replicate n (-1 : Int)).set t 0).getD v 0 ≤ 0 := fun v hv => by rw [hg v hv]; split <;> omega
  refine ⟨⟨by simp, fun v hv => by rw [hg v hv]; split <;> omega, fun v hv => by have := hlt v hv; omega, by rw [hg t ht]; simp, fun v hv h => ?_, fun v hv h => by have := hlt v hv; omega, fun x _ h1 h2 => by omega, by simp⟩, hlt⟩
  rw [hg v hv] at h
  split at h
  · rename_i e; exact e.symm
  · omega
theorem LInv.skip {pre : List Lk} {x : Lk} (h : LInv n t E D d pre) (hx : E x → D.getD x.t 0 = (d : Int) → 0 ≤ D.getD x.f 0) : LInv n t E D d (pre ++ [x]) :=
  ⟨h.len, h.low, h.hi, h.at0, h.zero, h.step, h.old, fun y hy => by
    rcases List.mem_append.1 hy with hy | hy
    · exact h.pre0 y hy
    · rw [List.mem_singleton.1 hy]; exact hx⟩
theorem LInv.next {ls : List Lk} {pre : List Lk} (hsub : ∀ x, E x → x ∈ ls) (hE : ∀ x, E x → x.f < n ∧ x.t < n) (hp : ∀ x ∈ ls, x ∈ pre) (h : LInv n t E D d pre) : LInv n t E D (d + 1) [] :=
  ⟨h.len, h.low, fun v hv => by have := h.hi v hv; omega, h.at0, h.zero, h.step, fun x hx h1 h2 => by
    by_cases e : D.getD x.t 0 = (d : Int)
    · have := h.pre0 x (hp x (hsub x hx)) hx e
      have := h.hi x.f (hE x hx).1
      omega
    · exact h.old x hx h1 (by omega), by simp⟩
theorem LInv.dist (hE : ∀ x, E x → x.f < n ∧ x.t < n) (h : LInv n t E D (d + 1) []) (hno : ∀ v, v < n → D.getD v 0 ≤ (d : Int)) : IsDist n t E D :=
  ⟨h.len, h.low, h.at0, h.zero, fun x hx h1 => h.old x hx h1 (by have := hno x.t (hE x hx).2; omega), h.step⟩
end
inductive RchN (E : Lk → Prop) (s : Nat) : Nat → Nat → Prop
  | refl {k : Nat} : RchN E s k s
  | step {k : Nat} {x : Lk} : RchN E s k x.f → E x → RchN E s (k + 1) x.t
theorem RchN.mono {E : Lk → Prop} {s k m v : Nat} (h : RchN E s k v) (hk : k ≤ m) : RchN E s m v := by
  induction h generalizing m with
  | refl => exact .refl
  | step _ hx ih =>
    obtain ⟨m', rfl⟩ : ∃ m', m = m' + 1 := ⟨m - 1, by omega⟩
    exact .step (ih (by omega)) hx
structure KInv (n s : Nat) (E : Lk → Prop) (B : List Bool) (r : Nat) (pre : List Lk) : Prop where
  len : B.length = n
  snd : ∀ v, v < n → bget B v = true → Rch E s v
  cmp : ∀ v, v < n → RchN E s r v → bget B v = true
  pre0 : ∀ x ∈ pre, E x → RchN E s r x.f → bget B x.t = true
section
variable {n s : Nat} {E : Lk → Prop} {B : List Bool} {r : Nat}
theorem KInv.start (hs : s < n) : KInv n s E ((List.replicate n false).set s true) 0 [] := by
  have hl : s < (List.replicate n false).length := by simpa using hs
  refine ⟨by simp, fun v _ h => ?_, fun v hv h => ?_, by simp⟩
  · rw [bget_set hl, bget_rep] at h
    split at h
    · rename_i e; rw [← e]; exact .refl
    · simp at h
  · cases h with
    | refl => rw [bget_set hl]; simp
theorem KInv.skip {pre : List Lk} {x : Lk} (h : KInv n s E B r pre) (hx : E x → bget B x.f = false) (hE : ∀ x, E x → x.f < n ∧ x.t < n) : KInv n s E B r (pre ++ [x]) :=
  ⟨h.len, h.snd, h.cmp, fun y hy hyE hr => by
    rcases List.mem_append.1 hy with hy | hy
    · exact h.pre0 y hy hyE hr
    · rw [List.mem_singleton.1 hy] at hyE hr ⊢
      have := h.cmp x.f (hE x hyE).1 hr
      rw [hx hyE] at this; simp at this⟩
theorem KInv.next {ls pre : List Lk} (hsub : ∀ x, E x → x ∈ ls) (hp : ∀ x ∈ ls, x ∈ pre) (hs : s < n) (h : KInv n s E B r pre) : KInv n s E B (r + 1) [] :=
  ⟨h.len, h.snd, fun v hv hr => by
    cases hr with
    | refl => exact h.cmp s hs .refl
    | @step _ x hr hx => exact h.pre0 x (hp x (hsub x hx)) hx hr, by simp⟩
end
end Go.Flow
/- The example of the chapter; the laws on maximum flows, cuts and paths, in plain words. No program in sight. No conditions. -/
namespace Go.Flow
/-! ### the laws -/
section
variable {n s t : Int} {l : List Arc}
end
end Go.Flow
/- Searches in slices of numbers; the example of the chapter. -/
namespace Go.Proofs.YthdoegkjifgegaaGreat
open Go.Eng Go.Flow
set_option maxRecDepth 100000
set_option maxHeartbeats 4000000

end Go.Proofs.YthdoegkjifgegaaGreat
/- The document's cuts. -/
namespace Go.Proofs.YthdoegkjifgegaaGreat
open Go.Eng Go.Step
set_option maxRecDepth 100000
set_option maxHeartbeats 4000000

set_option maxHeartbeats 16000000 in
theorem refNormal_spec (ρ : PH) (p : Option Addr) (kk : Nat) (l : Iv) (hv : SpAt ρ (.slice p l.length kk) l) (hl : l.length ≤ 1000) (hok : ∀ x ∈ l, okSp x) :
  Makes Tryz.prog (fv 50) [.slice p l.length kk] [ρ] (fun r σ => ∃ u, r = .tuple #[u, int 0] ∧ OwnS 61 2 u (insAll [] l).length ((insAll [] l).flatMap encS) σ) := by
 have hr := rowN encS_len hv
 refine spec_in (cap := []) Tryz.func50 rfl rfl Tryz.ntmps50 rfl envZ (fun N β => ?_)
 refine AC ?_
 refine AA ?_
 refine AD ?_
 refine AD ?_
 refine AE ?_
 refine AC ?_
 refine AC ?_
 refine AA ?_
 refine AB ?_
 refine AU ?_
 refine BU ?_
 refine AE ?_
 refine AN rfl ?_
 refine AL ?_
 refine AC ?_
 refine AA ?_
 refine BA ?_; rintro _ _ ⟨b, rfl, rfl⟩
 refine AD ?_
 refine AE ?_
 refine AC ?_
 refine AC ?_
 refine AA ?_
 refine AD ?_
 refine AE ?_
 refine AP ?_
 revert b; intro bo
 refine BC [0] (X := Nat × Value × PH) (0, .slice (some ⟨bo, 0, none⟩) 0 0, sng bo (.cells #[] 61 (0, 0))) (fun z => z.1 ≤ l.length ∧ OwnS 61 2 z.2.1 (insAll [] (l.take z.1)).length ((insAll [] (l.take z.1)).flatMap encS) z.2.2) (fun z => [(5, int z.1), (4, z.2.1)]) (fun z => [z.2.2]) (fun z => l.length - z.1) pickZ ⟨by dsimp only; omega, OwnS.empty⟩ covZ selZ ?_
 rintro ⟨k, u, σ⟩ ⟨hk, hO⟩
 dsimp only at hk hO ⊢
 by_cases hlt : k < l.length
 rotate_left
 ·rw [List.take_of_length_le (by omega)] at hO
  refine AC ?_
  refine AC ?_
  refine AA ?_
  refine AB ?_
  refine AB ?_
  refine AU ?_
  refine AY ?_
  refine AE ?_
  refine AN rfl ?_
  refine A7 rfl ?_
  refine AC ?_
  refine AA ?_
  refine AB ?_
  refine AD ?_
  refine AD ?_
  refine AE ?_
  exact AI (res2 rfl rfl rfl) rsubZ selZ ⟨σ, ⟨u, rfl, hO⟩, rfl⟩
 have hx := List.getElem?_eq_getElem hlt
 have hm := hok _ (List.getElem_mem hlt)
 have hti : insAll [] (l.take (k + 1)) = insI (insAll [] (l.take k)) l[k] := by
  rw [List.take_succ_eq_append_getElem hlt]
  unfold insAll
  rw [List.foldl_append]
  rfl
 have hil := (insAll_ok (b := l.take k) (a := []) ⟨by simp, List.Pairwise.nil⟩ (fun x hx => (hok x (List.mem_of_mem_take hx)).1)).2.2
 rw [List.length_take] at hil
 simp only [List.length_nil] at hil
 obtain ⟨b7, o7, rfl, hrd⟩ := hr k _ hx
 generalize insAll [] (l.take k) = O at hO hti hil
 generalize l[k] = x at hx hm hti hrd
 have hV := refIvValid_spec x
 rw [decide_eq_true hm] at hV
 have hI := refIvInsert_spec σ u O x (show SpAt σ u O from hO.at) hO.capOK (by omega)
 have hrd2 : RdN ρ b7 (o7 + k * 2) [int x.1, int x.2] := hrd
 refine AC ?_
 refine AC ?_
 refine AA ?_
 refine AB ?_
 refine AB ?_
 refine AU ?_
 refine BB ?_
 refine AE ?_
 refine AO rfl ?_
 refine AL ?_
 refine AC ?_
 refine AP ?_
 refine AC ?_
 refine AC ?_
 refine AA ?_
 refine AB ?_
 refine AB ?_
 refine A8 ?_
 refine AT ?_
 refine A6 hV rfl rfl rdZ rfl rfl ?_
 rintro _ rfl
 refine BE ?_
 refine AE ?_
 refine AN rfl ?_
 refine AL ?_
 refine AA ?_
 refine AB ?_
 refine AB ?_
 refine AB ?_
 refine A8 ?_
 refine AT ?_
 refine BY hI rfl rfl rdZ rfl rfl ?_
 rintro u1 σ1 hO1
 refine AD ?_
 refine AE ?_
 refine A0 ?_
 refine AA ?_
 refine AB ?_
 refine A9 ?_
 refine AD ?_
 refine AE ?_
 refine AW (k + 1, u1, σ1) ⟨by dsimp only; omega, ?_⟩ (by dsimp only; omega) covZ selZ
 dsimp only
 rw [hti]
 exact hO1
set_option maxHeartbeats 64000000 in
theorem refSides_spec {ρ τ σ υ : PH} {pq pc pb ph : Option Addr} {kq kc kb kh : Nat} {qs : List Int} {cs : List Ct} {bs : List Bk} {hs : List Hd} (hT : TbAt ρ τ σ υ pq pc pb ph kq kc kb kh qs cs bs hs) (d : Dm) (ω : PH) (u0 : Value) (side : List Int) (hu : IntsAt ω u0 side) (hsl : side.length ≤ 1000000) :
  Eng.Spec Tryz.prog (fv 20) [.agg #[.slice pq qs.length kq, .slice pc cs.length kc, .slice pb bs.length kb, .slice ph hs.length kh], .agg #[int d.s, int d.d, int d.v, int d.r, int d.e], u0] [ρ, τ, σ, υ, ω] [] (fun r H' => ∃ (L : List Sq) (u : Value) (σ' χ' : PH), r = .tuple #[u, int (sidesE qs cs bs hs d side)] ∧ H' = [σ', χ'] ∧ cuL L = (if sidesE qs cs bs hs d side = 0 then sidesC d qs.length side else []) ∧ CutL σ' χ' u L) := by
 obtain ⟨pf, kf, rfl, hrf⟩ := hu.val Eng.encI_len
 refine spec_in (cap := []) Tryz.func20 rfl rfl Tryz.ntmps20 rfl envZ (fun N β => ?_)
 refine AC ?_
 refine AA ?_
 refine BJ (BN rfl) rfl rfl rfl ?_
 rintro _ _ ⟨b1, rfl, rfl⟩
 refine AS (ρ := sng b1 _) takeZ ?_
 have ct : RdN (sng b1 (.cells #[.slice pq qs.length kq, .slice pc cs.length kc, .slice pb bs.length kb, .slice ph hs.length kh] 29 (0, 0))) b1 0 [.slice pq qs.length kq, .slice pc cs.length kc, .slice pb bs.length kb, .slice ph hs.length kh] := rdN_sng (vs := [.slice pq qs.length kq, .slice pc cs.length kc, .slice pb bs.length kb, .slice ph hs.length kh])
 have ct0 : rdc (sng b1 (.cells #[.slice pq qs.length kq, .slice pc cs.length kc, .slice pb bs.length kb, .slice ph hs.length kh] 29 (0, 0))) b1 0 = some (.slice pq qs.length kq) := by rw [rdc_sng]; rfl
 have ct1 : rdc (sng b1 (.cells #[.slice pq qs.length kq, .slice pc cs.length kc, .slice pb bs.length kb, .slice ph hs.length kh] 29 (0, 0))) b1 1 = some (.slice pc cs.length kc) := by rw [rdc_sng]; rfl
 have ct2 : rdc (sng b1 (.cells #[.slice pq qs.length kq, .slice pc cs.length kc, .slice pb bs.length kb, .slice ph hs.length kh] 29 (0, 0))) b1 2 = some (.slice pb bs.length kb) := by rw [rdc_sng]; rfl
 have ct3 : rdc (sng b1 (.cells #[.slice pq qs.length kq, .slice pc cs.length kc, .slice pb bs.length kb, .slice ph hs.length kh] 29 (0, 0))) b1 3 = some (.slice ph hs.length kh) := by rw [rdc_sng]; rfl
 have ctp : RdP (sng b1 (.cells #[.slice pq qs.length kq, .slice pc cs.length kc, .slice pb bs.length kb, .slice ph hs.length kh] 29 (0, 0))) b1 0 [.slice pq qs.length kq, .slice pc cs.length kc] := rdP_sng (xs := [.slice pq qs.length kq, .slice pc cs.length kc, .slice pb bs.length kb, .slice ph hs.length kh]) rfl
 refine BJ (BN rfl) rfl rfl rfl ?_
 rintro _ _ ⟨b2, rfl, rfl⟩
 refine AS (ρ := sng b2 _) takeZ ?_
 have cd : RdN (sng b2 (.cells #[int d.s, int d.d, int d.v, int d.r, int d.e] 31 (0, 0))) b2 0 [int d.s, int d.d, int d.v, int d.r, int d.e] := rdN_sng (vs := [int d.s, int d.d, int d.v, int d.r, int d.e])
 have cd0 : rdc (sng b2 (.cells #[int d.s, int d.d, int d.v, int d.r, int d.e] 31 (0, 0))) b2 0 = some (int d.s) := by rw [rdc_sng]; rfl
 have cd1 : rdc (sng b2 (.cells #[int d.s, int d.d, int d.v, int d.r, int d.e] 31 (0, 0))) b2 1 = some (int d.d) := by rw [rdc_sng]; rfl
 have cd2 : rdc (sng b2 (.cells #[int d.s, int d.d, int d.v, int d.r, int d.e] 31 (0, 0))) b2 2 = some (int d.v) := by rw [rdc_sng]; rfl
 have cd3 : rdc (sng b2 (.cells #[int d.s, int d.d, int d.v, int d.r, int d.e] 31 (0, 0))) b2 3 = some (int d.r) := by rw [rdc_sng]; rfl
 have cd4 : rdc (sng b2 (.cells #[int d.s, int d.d, int d.v, int d.r, int d.e] 31 (0, 0))) b2 4 = some (int d.e) := by rw [rdc_sng]; rfl
 refine CG ?_
 refine AD ?_
 refine AD ?_
 refine AE ?_
 refine AC ?_
 refine AA ?_
 refine AT ?_
 refine AT ?_
 refine BY (refGraph53_spec hT d) rfl rfl rdZ rfl rfl ?_
 rintro _ σg hg
 cases hv : validT qs cs bs hs d with
 | false =>
  rw [hv, if_neg (by simp)] at hg
  obtain ⟨rfl, rfl⟩ := hg
  have hE : sidesE qs cs bs hs d side = 1 := by unfold sidesE; rw [if_neg (by simp [hv])]
  rw [hE]
  refine AB ?_
  refine AR ?_
  refine AR ?_
  refine A5 ?_; rintro _ _ ⟨b, rfl, rfl⟩
  refine A3 ?_; rintro _ _ ⟨rfl, rfl⟩
  refine AD ?_
  refine AE ?_
  refine AC ?_
  refine AC ?_
  refine AA ?_
  refine AB ?_
  refine CK ?_
  refine AE ?_
  refine AO rfl ?_
  refine AC ?_
  refine AA ?_
  refine BA ?_; rintro _ _ ⟨b, rfl, rfl⟩
  refine AB ?_
  refine AD ?_
  refine AD ?_
  refine AE ?_
  exact AI (res2 rfl rfl rfl) rsubZ selZ ⟨[], _, sng b (.cells #[] 59 (0, 0)), emp, rfl, rfl, by rw [if_neg (by omega)]; rfl, (OwnS.empty (e := 59) (size := 1)).at, by simp⟩
 | true =>
 rw [hv, if_pos rfl] at hg
 obtain ⟨ug, rfl, hOg⟩ := hg
 have hAt : ArcsAt σg ug (arcsG qs cs bs hs d) := hOg.at
 obtain ⟨pg, kg, rfl⟩ := hOg.form
 have hEv : sidesE qs cs bs hs d side = (Go.Flow.capacitySpec (vsN qs d) (arcsG qs cs bs hs d) side).2 := by unfold sidesE; rw [if_pos hv]
 have h := vok hv
 have hdm := h.dm
 unfold okDm at hdm
 have hnq := h.nq
 have hEl := ea_len qs cs bs hs d h
 have hAl : (arcsG qs cs bs hs d).length = (arcsE qs cs bs hs d).length := by unfold arcsG; rw [List.length_map]
 refine AS (ρ := σg) takeZ ?_
 refine AB ?_
 refine AR ?_
 refine AR ?_
 refine A5 ?_; rintro _ _ ⟨b, rfl, rfl⟩
 refine A3 ?_; rintro _ _ ⟨rfl, rfl⟩
 refine AD ?_
 refine AE ?_
 refine AC ?_
 refine AC ?_
 refine AA ?_
 refine AB ?_
 refine BI ?_
 refine AE ?_
 refine AN rfl ?_
 refine AL ?_
 refine AC ?_
 refine AC ?_
 refine AA ?_
 refine AH ?_
 refine AF ?_
 refine AH ?_
 refine AF ?_
 refine AB ?_
 revert b; intro bg
 have hval := refCapacity_spec σg ω (.slice pg (arcsG qs cs bs hs d).length kg) (.slice pf side.length kf) (vsN qs d) (arcsG qs cs bs hs d) side hAt hu (by omega) (by omega)
 skip
 refine A6 hval rfl rfl rdZ rfl rfl ?_
 rintro _ rfl
 rw [← hEv]
 generalize (Go.Flow.capacitySpec (vsN qs d) (arcsG qs cs bs hs d) side).1 = vv
 by_cases hz : sidesE qs cs bs hs d side = 0
 rotate_left
 ·rw [if_neg hz]
  refine AB ?_
  refine AR ?_
  refine AR ?_
  refine AD ?_
  refine AD ?_
  refine AE ?_
  refine AC ?_
  refine AA ?_
  refine AB ?_
  refine CK ?_
  refine AE ?_
  refine AO rfl ?_
  refine AC ?_
  refine AA ?_
  refine BA ?_; rintro _ _ ⟨b, rfl, rfl⟩
  refine AB ?_
  refine AD ?_
  refine AD ?_
  refine AE ?_
  exact AI (res2 rfl rfl rfl) rsubZ selZ ⟨[], _, sng b (.cells #[] 59 (0, 0)), emp, rfl, rfl, rfl, (OwnS.empty (e := 59) (size := 1)).at, by simp⟩
 rw [if_pos hz]
 have hin := sidesE_in hv hz
 have hasc := sidesE_asc hv hz
 have hw : wd d = d.e - d.r + 1 := rfl
 rw [hz]
 refine AB ?_
 refine AR ?_
 refine AR ?_
 refine AD ?_
 refine AD ?_
 refine AE ?_
 refine AC ?_
 refine AA ?_
 refine AB ?_
 refine BI ?_
 refine AE ?_
 refine AN rfl ?_
 refine AL ?_
 refine AC ?_
 refine AA ?_
 refine AH ?_
 refine AF ?_
 refine AH ?_
 refine AF ?_
 refine C8 ?_
 refine CH ?_
 refine AD ?_
 refine AE ?_
 refine AC ?_
 refine AA ?_
 refine BA ?_; rintro _ _ ⟨b, rfl, rfl⟩
 refine AD ?_
 refine AE ?_
 refine AC ?_
 refine AC ?_
 refine AA ?_
 refine AD ?_
 refine AE ?_
 refine AP ?_
 revert b; intro bo
 refine BC [2, 3, 4, 12] (X := Nat × List Sq × Value × PH × PH) (0, [], .slice (some ⟨bo, 0, none⟩) 0 0, sng bo (.cells #[] 59 (0, 0)), emp) (fun x => x.1 ≤ qs.length ∧ cuL x.2.1 = sidesC d x.1 side ∧ OwnS 59 1 x.2.2.1 x.2.1.length (x.2.1.flatMap encQ) x.2.2.2.1 ∧ ∀ z ∈ x.2.1, SpAt x.2.2.2.2 (.slice z.1.1 z.2.length z.1.2) z.2 ∧ z.2.length ≤ 9223372036854775807) (fun x => [(14, int x.1), (13, x.2.2.1)]) (fun x => [x.2.2.2.1, x.2.2.2.2]) (fun x => qs.length - x.1) pickZ ⟨by dsimp only; omega, rfl, OwnS.empty, by simp⟩ covZ selZ ?_
 rintro ⟨n, L, u, σo, χo⟩ ⟨hn, hL, hO, hS⟩
 dsimp only at hn hL hO hS ⊢
 have hLl : L.length ≤ qs.length := by
  have := congrArg List.length hL
  rw [List.length_map, sidesC_len] at this
  omega
 by_cases hlt : n < qs.length
 rotate_left
 ·have hne : n = qs.length := by omega
  subst hne
  refine AC ?_
  refine AC ?_
  refine AA ?_
  refine AB ?_
  refine AH ?_
  refine AH ?_
  refine AF ?_
  refine AU ?_
  refine AY ?_
  refine AE ?_
  refine AN rfl ?_
  refine A7 rfl ?_
  refine AC ?_
  refine AA ?_
  refine AB ?_
  refine AD ?_
  refine AD ?_
  refine AE ?_
  exact AI (res2 rfl rfl rfl) rsubZ selZ ⟨L, u, σo, χo, rfl, rfl, hL, hO.at, hS⟩
 have hnext : sidesC d (n + 1) side = sidesC d n side ++ [sideI d side n] := by unfold sidesC; rw [List.range_succ, List.map_append]; rfl
 refine AC ?_
 refine AC ?_
 refine AA ?_
 refine AB ?_
 refine AH ?_
 refine AH ?_
 refine AF ?_
 refine AU ?_
 refine BB ?_
 refine AE ?_
 refine AO rfl ?_
 refine AL ?_
 refine AC ?_
 refine AP ?_
 refine AC ?_
 refine AA ?_
 refine BA ?_; rintro _ _ ⟨b, rfl, rfl⟩
 refine AD ?_
 refine AE ?_
 refine AC ?_
 refine AC ?_
 refine AA ?_
 refine AD ?_
 refine AE ?_
 refine AP ?_
 revert b; intro bl
 refine BC [2, 3, 4, 12, 13, 14] (X := Nat × Value × PH) (0, .slice (some ⟨bl, 0, none⟩) 0 0, sng bl (.cells #[] 61 (0, 0))) (fun z => z.1 ≤ side.length ∧ OwnS 61 2 z.2.1 (singI d n (side.take z.1)).length ((singI d n (side.take z.1)).flatMap encS) z.2.2) (fun z => [(16, int z.1), (15, z.2.1)]) (fun z => [z.2.2, σo, χo]) (fun z => side.length - z.1) pickZ ⟨by dsimp only; omega, OwnS.empty⟩ covZ selZ ?_
 rintro ⟨k, wl, σl⟩ ⟨hk, hOl⟩
 dsimp only at hk hOl ⊢
 have hsgl := singI_small h (side := side.take k) (hasc.sublist (List.take_sublist _ _)) n
 by_cases hlk : k < side.length
 ·have hx := List.getElem?_eq_getElem hlk
  have hxi := hin _ (List.getElem_mem hlk)
  have hnx := singI_next d n hlk
  obtain ⟨bq, oq, epf, gf⟩ := hrf.int hx
  have hm0 := Int.emod_nonneg side[k] (show d.e - d.r + 1 ≠ 0 by omega)
  have hm1 := Int.emod_lt_of_pos side[k] (show 0 < d.e - d.r + 1 by omega)
  have hvs := h.vs
  rw [hw] at hnx
  generalize side[k] = v at hx hxi hnx gf hm0 hm1
  generalize singI d n (side.take k) = S at hOl hnx hsgl
  subst epf
  by_cases hc : v / (d.e - d.r + 1) = n
  ·rw [if_pos hc] at hnx
   refine AC ?_
   refine AC ?_
   refine AA ?_
   refine AB ?_
   refine AB ?_
   refine AU ?_
   refine BB ?_
   refine AE ?_
   refine AO rfl ?_
   refine AL ?_
   refine AC ?_
   refine AP ?_
   refine AC ?_
   refine AA ?_
   refine AB ?_
   refine AB ?_
   refine BQ ?_
   refine AF ?_
   refine AB ?_
   refine GC ?_
   refine AB ?_
   refine CJ ?_
   refine AE ?_
   refine AO rfl ?_
   refine AC ?_
   refine AZ (.q 0 (.q 1 (.q 2 (.q 3 (.q 4 (.q 5 (.q 6 (.q 7 (.q 8 (.q 9 .nil)))))))))) [] rfl (by kernel_rfl) Sel.nil ?_
   refine AX ?_
   refine AQ ?_
   refine AK ?_
   refine AK ?_
   refine B7 ?_
   refine AQ ?_
   refine AK ?_
   refine zd_rem ?_
   refine CS ?_
   refine BP ?_
   refine A4 ?_
   refine AA ?_
   refine AB ?_
   refine AB ?_
   refine AB ?_
   refine CH ?_
   refine B6 ?_
   refine BA ?_; rintro _ _ ⟨b, rfl, rfl⟩
   refine BJ (BS (by_ := 16) (s := 2) (news := [int (d.r + v % (d.e - d.r + 1)), int (d.r + v % (d.e - d.r + 1) + 1)]) rfl rfl rfl rfl rfl rfl rfl hOl takeZ (cells_own memZ) rfl (by (repeat (first | exact (fun v hv => absurd hv List.not_mem_nil) | (refine List.forall_mem_cons.2 ⟨?_, ?_⟩; (focus (first | exact rfl | assumption))))); first | done | fail) (by omega) (by simp only [maxLen]; omega) (by omega)) rfl rfl rfl ?_
   rintro u1 _ ⟨σ1, hO1, rfl⟩
   refine AD ?_
   refine AE ?_
   refine A0 ?_
   refine AA ?_
   refine AB ?_
   refine A9 ?_
   refine AD ?_
   refine AE ?_
   refine AW (k + 1, u1, σ1) ⟨by dsimp only; omega, ?_⟩ (by dsimp only; omega) covZ selZ
   dsimp only
   rw [hnx, List.length_append, List.flatMap_append]
   exact hO1
  ·rw [if_neg hc, List.append_nil] at hnx
   refine AC ?_
   refine AC ?_
   refine AA ?_
   refine AB ?_
   refine AB ?_
   refine AU ?_
   refine BB ?_
   refine AE ?_
   refine AO rfl ?_
   refine AL ?_
   refine AC ?_
   refine AP ?_
   refine AC ?_
   refine AA ?_
   refine AB ?_
   refine AB ?_
   refine BQ ?_
   refine AF ?_
   refine AB ?_
   refine GC ?_
   refine AB ?_
   refine CE ?_
   refine AE ?_
   refine AN rfl ?_
   refine AL ?_
   refine A0 ?_
   refine AA ?_
   refine AB ?_
   refine A9 ?_
   refine AD ?_
   refine AE ?_
   refine AW (k + 1, wl, σl) ⟨by dsimp only; omega, ?_⟩ (by dsimp only; omega) covZ selZ
   dsimp only
   rw [hnx]
   exact hOl
 rw [List.take_of_length_le (by omega)] at hOl hsgl
 have hSl : SpAt σl wl (singI d n side) := hOl.at
 obtain ⟨pl, kl, rfl⟩ := hOl.form
 have hsok : ∀ x ∈ singI d n side, okSp x := fun x hx => by
  unfold singI at hx
  obtain ⟨v, hv1, rfl⟩ := List.mem_map.1 hx
  have hv2 := hin v (List.mem_filter.1 hv1).1
  have hm0 := Int.emod_nonneg v (show wd d ≠ 0 by omega)
  have hm1 := Int.emod_lt_of_pos v (show 0 < wd d by omega)
  exact ⟨by dsimp only; omega, by dsimp only; omega, by dsimp only; omega⟩
 have hN := refNormal_spec σl pl kl (singI d n side) hSl (by omega) hsok
 have hIe : insAll [] (singI d n side) = sideI d side n := rfl
 have hIl := sideI_small h side n
 rw [hIe] at hN
 generalize sideI d side n = I0 at hN hIl hnext
 refine AC ?_
 refine AC ?_
 refine AA ?_
 refine AB ?_
 refine AB ?_
 refine AU ?_
 refine AY ?_
 refine AE ?_
 refine AN rfl ?_
 refine A7 rfl ?_
 refine AC ?_
 refine AA ?_
 refine AB ?_
 refine BY hN rfl rfl rdZ rfl rfl ?_
 rintro _ σi ⟨ui, rfl, hOi⟩
 obtain ⟨pi, ci, rfl⟩ := hOi.form
 refine AB ?_
 refine AR ?_
 refine AR ?_
 refine AD ?_
 refine AE ?_
 refine AA ?_
 refine AB ?_
 refine AB ?_
 refine BA ?_; rintro _ _ ⟨b, rfl, rfl⟩
 refine BJ (BS (by_ := 24) (s := 1) (news := [.slice pi I0.length ci]) rfl rfl rfl rfl rfl rfl rfl hO takeZ (cells_own memZ) rfl (by (repeat (first | exact (fun v hv => absurd hv List.not_mem_nil) | (refine List.forall_mem_cons.2 ⟨?_, ?_⟩; (focus (first | exact rfl | assumption))))); first | done | fail) (by omega) (by simp only [maxLen]; omega) (by omega)) rfl rfl rfl ?_
 rintro u1 _ ⟨σ1, hO1, rfl⟩
 refine AD ?_
 refine AE ?_
 refine A0 ?_
 refine AA ?_
 refine AB ?_
 refine A9 ?_
 refine AD ?_
 refine AE ?_
 refine DW (ρ := σi) (σ := χo) takeZ takeZ (fun χ1 s1 s2 => ?_)
 refine AW (n + 1, L ++ [((pi, ci), I0)], u1, σ1, χ1) ⟨by dsimp only; omega, ?_, ?_, fun z hz => ?_⟩ (by dsimp only; omega) covZ selZ
 ·dsimp only
  rw [hnext, ← hL]
  exact List.map_append
 ·dsimp only
  rw [List.length_append, List.flatMap_append]
  exact hO1
 ·rcases List.mem_append.1 hz with hz | hz
  ·exact ⟨(hS z hz).1.mono s2, (hS z hz).2⟩
  ·obtain rfl := List.mem_singleton.1 hz
   exact ⟨SlE.mono (show SpAt σi _ _ from hOi.at) s1, by dsimp only; omega⟩
end Go.Proofs.YthdoegkjifgegaaGreat
/- Laws Graph and Sides. -/
namespace Go.Proofs.YthdoegkjifgegaaGreat
open Go.Eng Go.Step
set_option maxRecDepth 100000
set_option maxHeartbeats 4000000

theorem shipsE_valid {qs : List Int} {cs : List Ct} {bs : List Bk} {hs : List Hd} {d : Dm} {fl : List Int} (h : shipsE qs cs bs hs d fl = 0) : validT qs cs bs hs d = true := by
 cases hv : validT qs cs bs hs d with
 | true => rfl
 | false => unfold shipsE at h; rw [if_neg (by simp [hv])] at h; omega
theorem sidesE_valid {qs : List Int} {cs : List Ct} {bs : List Bk} {hs : List Hd} {d : Dm} {fl : List Int} (h : sidesE qs cs bs hs d fl = 0) : validT qs cs bs hs d = true := by
 cases hv : validT qs cs bs hs d with
 | true => rfl
 | false => unfold sidesE at h; rw [if_neg (by simp [hv])] at h; omega
theorem shipsR_len (qs : List Int) (cs : List Ct) (bs : List Bk) (hs : List Hd) (d : Dm) (fl : List Int) : (shipsR qs cs bs hs d fl).length ≤ 1000000 := by
 unfold shipsR
 by_cases hz : shipsE qs cs bs hs d fl = 0
 ·rw [if_pos hz]
  have h1 := ea_len qs cs bs hs d (vok (shipsE_valid hz))
  have h2 := shipsF_len (arcsE qs cs bs hs d) fl
  omega
 ·rw [if_neg hz]; simp
theorem sides_len {qs : List Int} {cs : List Ct} {bs : List Bk} {hs : List Hd} {d : Dm} {side : List Int} {L : List Sq} (hL : cuL L = (if sidesE qs cs bs hs d side = 0 then sidesC d qs.length side else [])) : L.length ≤ 1000000 := by
 have := congrArg List.length hL
 rw [List.length_map] at this
 by_cases hz : sidesE qs cs bs hs d side = 0
 ·rw [if_pos hz, sidesC_len] at this
  have h1 := (vok (sidesE_valid hz)).nq
  omega
 ·rw [if_neg hz] at this
  have h0 : L.length = 0 := this
  omega
set_option maxHeartbeats 64000000 in
theorem sides_law {ρ τ σ υ : PH} {pq pc pb ph : Option Addr} {kq kc kb kh : Nat} {qs : List Int} {cs : List Ct} {bs : List Bk} {hs : List Hd} (hT : TbAt ρ τ σ υ pq pc pb ph kq kc kb kh qs cs bs hs) (d : Dm) (ω ψ : PH) (pf pw : Option Addr) (kf kw : Nat) (fl side : List Int) (hu : IntsAt ω (.slice pf fl.length kf) fl) (hw : IntsAt ψ (.slice pw side.length kw) side) (hfl : fl.length ≤ 9223372036854775807) (hsl : side.length ≤ 9223372036854775807) :
  Ans Tryz.prog (fv 4) [.agg #[.slice pq qs.length kq, .slice pc cs.length kc, .slice pb bs.length kb, .slice ph hs.length kh], .agg #[int d.s, int d.d, int d.v, int d.r, int d.e], .slice pf fl.length kf, .slice pw side.length kw] [ρ, τ, σ, υ, ω, ψ] (fun r => r = .bool true) := by
 have hgr := great53_spec pq pc pb ph kq kc kb kh qs.length cs.length bs.length hs.length d
 have hS := Shipments_spec hT d ω _ fl hu
 have hS' := refShips53_spec hT d ω _ fl hu
 have hll := shipsR_len qs cs bs hs d fl
 generalize shipsE qs cs bs hs d fl = e1 at hS hS'
 generalize shipsR qs cs bs hs d fl = l at hS hS' hll
 refine spec_in (cap := []) Tryz.func4 rfl rfl Tryz.ntmps4 rfl envZ (fun N β => ?_)
 refine AC ?_
 refine AA ?_
 refine BJ (BN rfl) rfl rfl rfl ?_
 rintro _ _ ⟨b1, rfl, rfl⟩
 refine AS (ρ := sng b1 _) takeZ ?_
 have ct : RdN (sng b1 (.cells #[.slice pq qs.length kq, .slice pc cs.length kc, .slice pb bs.length kb, .slice ph hs.length kh] 29 (0, 0))) b1 0 [.slice pq qs.length kq, .slice pc cs.length kc, .slice pb bs.length kb, .slice ph hs.length kh] := rdN_sng (vs := [.slice pq qs.length kq, .slice pc cs.length kc, .slice pb bs.length kb, .slice ph hs.length kh])
 have ct0 : rdc (sng b1 (.cells #[.slice pq qs.length kq, .slice pc cs.length kc, .slice pb bs.length kb, .slice ph hs.length kh] 29 (0, 0))) b1 0 = some (.slice pq qs.length kq) := by rw [rdc_sng]; rfl
 have ct1 : rdc (sng b1 (.cells #[.slice pq qs.length kq, .slice pc cs.length kc, .slice pb bs.length kb, .slice ph hs.length kh] 29 (0, 0))) b1 1 = some (.slice pc cs.length kc) := by rw [rdc_sng]; rfl
 have ct2 : rdc (sng b1 (.cells #[.slice pq qs.length kq, .slice pc cs.length kc, .slice pb bs.length kb, .slice ph hs.length kh] 29 (0, 0))) b1 2 = some (.slice pb bs.length kb) := by rw [rdc_sng]; rfl
 have ct3 : rdc (sng b1 (.cells #[.slice pq qs.length kq, .slice pc cs.length kc, .slice pb bs.length kb, .slice ph hs.length kh] 29 (0, 0))) b1 3 = some (.slice ph hs.length kh) := by rw [rdc_sng]; rfl
 have ctp : RdP (sng b1 (.cells #[.slice pq qs.length kq, .slice pc cs.length kc, .slice pb bs.length kb, .slice ph hs.length kh] 29 (0, 0))) b1 0 [.slice pq qs.length kq, .slice pc cs.length kc] := rdP_sng (xs := [.slice pq qs.length kq, .slice pc cs.length kc, .slice pb bs.length kb, .slice ph hs.length kh]) rfl
 refine BJ (BN rfl) rfl rfl rfl ?_
 rintro _ _ ⟨b2, rfl, rfl⟩
 refine AS (ρ := sng b2 _) takeZ ?_
 have cd : RdN (sng b2 (.cells #[int d.s, int d.d, int d.v, int d.r, int d.e] 31 (0, 0))) b2 0 [int d.s, int d.d, int d.v, int d.r, int d.e] := rdN_sng (vs := [int d.s, int d.d, int d.v, int d.r, int d.e])
 have cd0 : rdc (sng b2 (.cells #[int d.s, int d.d, int d.v, int d.r, int d.e] 31 (0, 0))) b2 0 = some (int d.s) := by rw [rdc_sng]; rfl
 have cd1 : rdc (sng b2 (.cells #[int d.s, int d.d, int d.v, int d.r, int d.e] 31 (0, 0))) b2 1 = some (int d.d) := by rw [rdc_sng]; rfl
 have cd2 : rdc (sng b2 (.cells #[int d.s, int d.d, int d.v, int d.r, int d.e] 31 (0, 0))) b2 2 = some (int d.v) := by rw [rdc_sng]; rfl
 have cd3 : rdc (sng b2 (.cells #[int d.s, int d.d, int d.v, int d.r, int d.e] 31 (0, 0))) b2 3 = some (int d.r) := by rw [rdc_sng]; rfl
 have cd4 : rdc (sng b2 (.cells #[int d.s, int d.d, int d.v, int d.r, int d.e] 31 (0, 0))) b2 4 = some (int d.e) := by rw [rdc_sng]; rfl
 refine AD ?_
 refine AE ?_
 refine AC ?_
 refine AC ?_
 refine AA ?_
 refine AT ?_
 refine AT ?_
 refine A6 hgr rfl rfl rdZ rfl rfl ?_
 rintro _ ⟨b, rfl⟩
 cases b with
 | true =>
  refine AB ?_
  refine AG rfl rfl rfl ?_
  refine AG rfl rfl rfl ?_
  refine AG rfl rfl rfl ?_
  refine AM ?_
  refine AB ?_
  refine AG rfl rfl rfl ?_
  refine AG rfl rfl rfl ?_
  refine AG rfl rfl rfl ?_
  refine AM ?_
  refine AE ?_
  refine AO rfl ?_
  refine AC ?_
  refine AA ?_
  refine A6 awake53_spec rfl rfl rdZ rfl rfl ?_
  rintro _ rfl
  refine AD ?_
  refine AE ?_
  exact AI (res1 rfl rfl) rsubZ selZ ⟨rfl, rfl⟩
 | false =>
 by_cases c1 : 400 < fl.length
 ·refine AB ?_
  refine AB ?_
  refine AU ?_
  refine CP ?_
  refine AJ ?_
  refine AB ?_
  refine AG rfl rfl rfl ?_
  refine AG rfl rfl rfl ?_
  refine AG rfl rfl rfl ?_
  refine AM ?_
  refine AE ?_
  refine AO rfl ?_
  refine AC ?_
  refine AA ?_
  refine A6 awake53_spec rfl rfl rdZ rfl rfl ?_
  rintro _ rfl
  refine AD ?_
  refine AE ?_
  exact AI (res1 rfl rfl) rsubZ selZ ⟨rfl, rfl⟩
 by_cases c2 : 120 < side.length
 ·refine AB ?_
  refine AB ?_
  refine AU ?_
  refine BU ?_
  refine AJ ?_
  refine AB ?_
  refine AB ?_
  refine AU ?_
  refine CP ?_
  refine AJ ?_
  refine AE ?_
  refine AO rfl ?_
  refine AC ?_
  refine AA ?_
  refine A6 awake53_spec rfl rfl rdZ rfl rfl ?_
  rintro _ rfl
  refine AD ?_
  refine AE ?_
  exact AI (res1 rfl rfl) rsubZ selZ ⟨rfl, rfl⟩
 have hD := Sides_spec hT d ψ _ side hw (by omega)
 have hD' := refSides_spec hT d ψ _ side hw (by omega)
 refine AB ?_
 refine AB ?_
 refine AU ?_
 refine BU ?_
 refine AJ ?_
 refine AB ?_
 refine AB ?_
 refine AU ?_
 refine BU ?_
 refine AJ ?_
 refine AE ?_
 refine AN rfl ?_
 refine AL ?_
 refine AC ?_
 refine AA ?_
 refine AT ?_
 refine AT ?_
 refine AB ?_
 refine BY hS rfl rfl rdZ rfl rfl ?_
 rintro _ σ1 ⟨u1, rfl, hO1⟩
 have hA1 : ShAt σ1 u1 l := hO1.at
 obtain ⟨p1, k1, rfl⟩ := hO1.form
 refine AS (ρ := σ1) takeZ ?_
 refine AB ?_
 refine AR ?_
 refine AR ?_
 refine AD ?_
 refine AD ?_
 refine AE ?_
 refine AC ?_
 refine AA ?_
 refine AT ?_
 refine AT ?_
 refine AB ?_
 refine BY hS' rfl rfl rdZ rfl rfl ?_
 rintro _ σ2 ⟨u2, rfl, hO2⟩
 have hA2 : ShAt σ2 u2 l := hO2.at
 obtain ⟨p2, k2, rfl⟩ := hO2.form
 refine AS (ρ := σ2) takeZ ?_
 refine AB ?_
 refine AR ?_
 refine AR ?_
 refine AD ?_
 refine AD ?_
 refine AE ?_
 refine AC ?_
 refine AA ?_
 refine AT ?_
 refine AT ?_
 refine AB ?_
 refine BK hD rfl rfl Takes.nil rdZ rfl rfl ?_
 rintro _ _ ⟨L, w, σ3, χ3, rfl, rfl, hL, hCL⟩
 obtain ⟨p3, k3, rfl, _⟩ := hCL.1.val encQ_len
 refine AS (ρ := σ3) takeZ ?_
 refine AS (ρ := χ3) takeZ ?_
 refine AB ?_
 refine AR ?_
 refine AR ?_
 refine AD ?_
 refine AD ?_
 refine AE ?_
 refine AC ?_
 refine AA ?_
 refine AT ?_
 refine AT ?_
 refine AB ?_
 refine BK hD' rfl rfl Takes.nil rdZ rfl rfl ?_
 rintro _ _ ⟨L', w', σ4, χ4, rfl, rfl, hL', hCL'⟩
 obtain ⟨p4, k4, rfl, _⟩ := hCL'.1.val encQ_len
 refine AS (ρ := σ4) takeZ ?_
 refine AS (ρ := χ4) takeZ ?_
 have hsc := exSameCut_spec σ3 χ3 σ4 χ4 p3 p4 k3 k4 L L' hCL hCL' (by rw [hL, hL']) (sides_len hL)
 have hss := sameShips_spec σ1 σ2 p1 p2 k1 k2 l hA1 hA2 hll
 generalize sidesE qs cs bs hs d side = e2
 clear hL hL' hD hD'
 refine AB ?_
 refine AR ?_
 refine AR ?_
 refine AD ?_
 refine AD ?_
 refine AE ?_
 refine AC ?_
 refine AA ?_
 refine AB ?_
 refine AB ?_
 refine A6 hss rfl rfl rdZ rfl rfl ?_
 rintro _ rfl
 refine AB ?_
 refine AB ?_
 refine AB ?_
 refine CJ ?_
 refine AM ?_
 refine AB ?_
 refine AB ?_
 refine AB ?_
 refine A6 hsc rfl rfl rdZ rfl rfl ?_
 rintro _ rfl
 refine AM ?_
 refine AB ?_
 refine AB ?_
 refine AB ?_
 refine CJ ?_
 refine AM ?_
 refine AB ?_
 refine A6 awake53_spec rfl rfl rdZ rfl rfl ?_
 rintro _ rfl
 refine AM ?_
 refine AD ?_
 refine AE ?_
 exact AI (res1 rfl rfl) rsubZ selZ ⟨rfl, rfl⟩
end Go.Proofs.YthdoegkjifgegaaGreat
/- The rows: each law, for every input. -/
namespace Go.Proofs.YthdoegkjifgegaaGreat
open Go.Eng Go.Step
set_option maxRecDepth 100000
set_option maxHeartbeats 4000000
open Go.ChangeShapes Go.WideShapes Go.ChangeAt Go.RowKit

set_option maxRecDepth 100000 in
theorem expandedSides_lifted (os : Os) (started : os.Started) (H : Type) (enc : TypeId × Value → H) :
  ReturnsInHanded {} Tryz.checked os 4 .any (Rows.expandedSidesSpec.pre6 enc Tryz.prog Tryz.f4 Rows.expandedSidesRow.domain false) (Rows.expandedSidesSpec.post enc Tryz.prog Tryz.f4 false true false false) := by
 refine returnsInHanded_of_change (C := Tryz.checked) Tryz.own started (by kernel_rfl) Tryz.func4
  (ChangeSpec.witness6 (enc := enc) (C := Tryz.checked) false ⟨#[], #[.agg #[.slice none 0 0, .slice none 0 0, .slice none 0 0, .slice none 0 0], .agg #[.int .i64 0, .int .i64 0, .int .i64 0, .int .i64 0, .int .i64 0], .slice none 0 0, .slice none 0 0], []⟩ 8 (by kernel_rfl) (by kernel_rfl) (by kernel_rfl) (by kernel_rfl)) ?_
 intro W base args ds gs before hval0 hW hcnd _
 have hval : ∀ (j : Nat) t v, Tryz.f4.params[j]? = some t → args[j]? = some v → Value.okWide Tryz.prog W .any base t v := hval0
 have hW' := hW
 obtain ⟨p, q, hA0, hV, rfl, hfz, hnd⟩ := hW
 have hA : DataW.TrodAll enc Tryz.prog W 0 (fun _ => true) true Tryz.f4.params.toList args.toList ds p := hA0
 rw [Tryz.params4] at hA hval
 obtain ⟨v0, vs0, d0, ds0, p0, q0, hargs, rfl, rfl, h0, r0⟩ := trodAll_cons hA
 obtain ⟨v1, vs1, d1, ds1, p1, q1, rfl, rfl, rfl, h1, r1⟩ := trodAll_cons r0
 obtain ⟨v2, vs2, d2, ds2, p2, q2, rfl, rfl, rfl, h2, r2⟩ := trodAll_cons r1
 obtain ⟨v3, vs3, d3, ds3, p3, q3, rfl, rfl, rfl, h3, r3⟩ := trodAll_cons r2
 obtain ⟨rfl, rfl, rfl⟩ := trodAll_nil r3
 obtain rfl : args = #[v0, v1, v2, v3] := by cases args; simp_all
 obtain ⟨rfl, rfl⟩ := trodVars_none hV
 have lt0 : ∀ x ∈ p0, x.block < W.heap.size := by obtain ⟨m, hm⟩ := h0; exact DataW.trod_lt m _ _ _ hm
 have lt1 : ∀ x ∈ p1, x.block < W.heap.size := by obtain ⟨m, hm⟩ := h1; exact DataW.trod_lt m _ _ _ hm
 have lt2 : ∀ x ∈ p2, x.block < W.heap.size := by obtain ⟨m, hm⟩ := h2; exact DataW.trod_lt m _ _ _ hm
 have lt3 : ∀ x ∈ p3, x.block < W.heap.size := by obtain ⟨m, hm⟩ := h3; exact DataW.trod_lt m _ _ _ hm
 have hlaw : Ans Tryz.prog (fv 4) [v0, v1, v2, v3] [heapPH W] (fun v => v = .bool true) := by
  obtain ⟨pq, pc, pb, ph, kq, kc, kb, kh, qs, cs, bs, hs, rfl, hT⟩ := tables_of (hval 0 _ v0 rfl rfl) (RdT.of h0)
  obtain ⟨d, rfl, id0, id1, id2, id3, id4⟩ := demand_of (hval 1 _ v1 rfl rfl) (RdT.of h1)
  obtain ⟨fl, hfl, _, lfl⟩ := intsV_of (hval 2 _ v2 rfl rfl) (RdT.of h2)
  obtain ⟨pf, kf, rfl, _⟩ := hfl.val Eng.encI_len
  obtain ⟨side, hside, _, lside⟩ := intsV_of (hval 3 _ v3 rfl rfl) (RdT.of h3)
  obtain ⟨pw, kw, rfl, _⟩ := hside.val Eng.encI_len
  exact (sides_law hT d _ _ pf pw kf kw fl side hfl hside lfl lside).rsub (fun _ h => by simpa using h)
 refine (law_calls Tryz.func4 rfl rfl hlaw).mono fun e W' ⟨he, bel⟩ => ?_
 subst he
 exact ⟨_, rfl, _, _, _, [], _, [], hW', trodAll_mk1 (shut_bool Tryz.underlying4 _), (trodAll_cons_mk (Below.trod Tryz.laidOut (by kernel_rfl) (of_decide_eq_true (by kernel_rfl)) h0 bel lt0) (trodAll_cons_mk (Below.trod Tryz.laidOut (by kernel_rfl) (of_decide_eq_true (by kernel_rfl)) h1 bel lt1) (trodAll_cons_mk (Below.trod Tryz.laidOut (by kernel_rfl) (of_decide_eq_true (by kernel_rfl)) h2 bel lt2) (trodAll_cons_mk (Below.trod Tryz.laidOut (by kernel_rfl) (of_decide_eq_true (by kernel_rfl)) h3 bel lt3) trodAll_mk0)))), rfl, bel.frame _, fun h => by cases h⟩
theorem expandedSides_holds : Rows.ExpandedSidesSaid :=
 OpenClaim.holds_of_wide 4 Tryz.f4 rfl rfl rfl rfl rfl rfl rfl ⟨rfl, rfl, rfl, rfl, rfl⟩ rfl rfl rfl rfl rfl (by kernel_rfl) Tryz.func4 (by kernel_rfl)
  (of_decide_eq_true (by kernel_rfl)) (by unfold Func.isWrapper; first | (rw [if_pos (by decide +kernel)]; kernel_rfl) | (rw [if_neg (by decide +kernel)]; exact ⟨rfl, rfl⟩))
  (fun os started H enc _ => expandedSides_lifted os started H enc)
end Go.Proofs.YthdoegkjifgegaaGreat
