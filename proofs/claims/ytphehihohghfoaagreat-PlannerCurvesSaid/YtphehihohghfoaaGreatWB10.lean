/- Texts of this proof, one after the other; no conditions. -/
import Derived.Test.YtphehihohghfoaaGreatWB9
import Derived.Test.YtphehihohghfoaaGreatWB3
import Derived.Test.YtphehihohghfoaaGreatWB2
import Derived.Test.YtphehihohghfoaaGreatWB8
import Derived.Test.YtphehihohghfoaaGreatWB7
import Derived.Test.YtphehihohghfoaaGreatWB1
import Derived.Test.YtphehihohghfoaaGreatWB5
set_option linter.all false
/- Distances found level by level, over all links again and again; the first link that leads nearer; what is reached by n rounds. No program in sight. No conditions. -/
namespace Go.Flow
structure LInv (n t : Nat) (E : Lk → Prop) (D : List Int) (d : Nat) (pre : List Lk) : Prop where
  len : D.length = n
  low : ∀ v, v < n → -1 ≤ D.getD v 0
  hi : ∀ v, v < n → D.getD v 0 ≤ (d : Int) + 1
  at0 : D.getD t 0 = 0
  zero : ∀ v, v < n → D.getD v 0 = 0 → v = t
  step : ∀ v, v < n → 0 < D.getD v 0 → ∃ x, E x ∧ x.f = v ∧ D.getD x.t 0 = D.getD v 0 - 1
  old : ∀ x, E x → 0 ≤ D.getD x.t 0 → D.getD x.t 0 < (d : Int) → 0 ≤ D.getD x.f 0 ∧ D.getD x.f 0 ≤ D.getD x.t 0 + 1
  pre0 : ∀ x ∈ pre, E x → D.getD x.t 0 = (d : Int) → 0 ≤ D.getD x.f 0
section
variable {n t : Nat} {E : Lk → Prop} {D : List Int} {d : Nat}
theorem LInv.start (ht : t < n) : LInv n t E ((List.replicate n (-1)).set t 0) 0 [] ∧ ∀ v, v < n → ((List.replicate n (-1 : Int)).set t 0).getD v 0 ≤ ((0 : Nat) : Int) := by
  have hg : ∀ v, v < n → ((List.replicate n (-1 : Int)).set t 0).getD v 0 = if t = v then 0 else -1 := fun v hv => by
    rw [getD_set (by simpa using ht)]
    split
    · rfl
    · exact getD_rep hv _
  have hlt : ∀ v, v < n → ((List.replicate n (-1 : Int)).set t 0).getD v 0 ≤ 0 := fun v hv => by rw [hg v hv]; split <;> omega
  refine ⟨⟨by simp, fun v hv => by rw [hg v hv]; split <;> omega, fun v hv => by have := hlt v hv; omega, by rw [hg t ht]; simp, fun v hv h => ?_, fun v hv h => by have := hlt v hv; omega, fun x _ h1 h2 => by omega, by simp⟩, hlt⟩
  rw [hg v hv] at h
  split at h
  · rename_i e; exact e.symm
  · omega
theorem LInv.skip {pre : List Lk} {x : Lk} (h : LInv n t E D d pre) (hx : E x → D.getD x.t 0 = (d : Int) → 0 ≤ D.getD x.f 0) : LInv n t E D d (pre ++ [x]) :=
  ⟨h.len, h.low, h.hi, h.at0, h.zero, h.step, h.old, fun y hy => by
    rcases List.mem_append.1 hy with hy | hy
    · exact h.pre0 y hy
    · rw [List.mem_singleton.1 hy]; exact hx⟩
theorem LInv.next {ls : List Lk} {pre : List Lk} (hsub : ∀ x, E x → x ∈ ls) (hE : ∀ x, E x → x.f < n ∧ x.t < n) (hp : ∀ x ∈ ls, x ∈ pre) (h : LInv n t E D d pre) : LInv n t E D (d + 1) [] :=
  ⟨h.len, h.low, fun v hv => by have := h.hi v hv; omega, h.at0, h.zero, h.step, fun x hx h1 h2 => by
    by_cases e : D.getD x.t 0 = (d : Int)
    · have := h.pre0 x (hp x (hsub x hx)) hx e
      have := h.hi x.f (hE x hx).1
      omega
    · exact h.old x hx h1 (by omega), by simp⟩
theorem LInv.dist (hE : ∀ x, E x → x.f < n ∧ x.t < n) (h : LInv n t E D (d + 1) []) (hno : ∀ v, v < n → D.getD v 0 ≤ (d : Int)) : IsDist n t E D :=
  ⟨h.len, h.low, h.at0, h.zero, fun x hx h1 => h.old x hx h1 (by have := hno x.t (hE x hx).2; omega), h.step⟩
end
inductive RchN (E : Lk → Prop) (s : Nat) : Nat → Nat → Prop
  | refl {k : Nat} : RchN E s k s
  | step {k : Nat} {x : Lk} : RchN E s k x.f → E x → RchN E s (k + 1) x.t
theorem RchN.mono {E : Lk → Prop} {s k m v : Nat} (h : RchN E s k v) (hk : k ≤ m) : RchN E s m v := by
  induction h generalizing m with
  | refl => exact .refl
  | step _ hx ih =>
    obtain ⟨m', rfl⟩ : ∃ m', m = m' + 1 := ⟨m - 1, by omega⟩
    exact .step (ih (by omega)) hx
structure KInv (n s : Nat) (E : Lk → Prop) (B : List Bool) (r : Nat) (pre : List Lk) : Prop where
  len : B.length = n
  snd : ∀ v, v < n → bget B v = true → Rch E s v
  cmp : ∀ v, v < n → RchN E s r v → bget B v = true
  pre0 : ∀ x ∈ pre, E x → RchN E s r x.f → bget B x.t = true
section
variable {n s : Nat} {E : Lk → Prop} {B : List Bool} {r : Nat}
theorem KInv.start (hs : s < n) : KInv n s E ((List.replicate n false).set s true) 0 [] := by
  have hl : s < (List.replicate n false).length := by simpa using hs
  refine ⟨by simp, fun v _ h => ?_, fun v hv h => ?_, by simp⟩
  · rw [bget_set hl, bget_rep] at h
    split at h
    · rename_i e; rw [← e]; exact .refl
    · simp at h
  · cases h with
    | refl => rw [bget_set hl]; simp
theorem KInv.skip {pre : List Lk} {x : Lk} (h : KInv n s E B r pre) (hx : E x → bget B x.f = false) (hE : ∀ x, E x → x.f < n ∧ x.t < n) : KInv n s E B r (pre ++ [x]) :=
  ⟨h.len, h.snd, h.cmp, fun y hy hyE hr => by
    rcases List.mem_append.1 hy with hy | hy
    · exact h.pre0 y hy hyE hr
    · rw [List.mem_singleton.1 hy] at hyE hr ⊢
      have := h.cmp x.f (hE x hyE).1 hr
      rw [hx hyE] at this; simp at this⟩
theorem KInv.next {ls pre : List Lk} (hsub : ∀ x, E x → x ∈ ls) (hp : ∀ x ∈ ls, x ∈ pre) (hs : s < n) (h : KInv n s E B r pre) : KInv n s E B (r + 1) [] :=
  ⟨h.len, h.snd, fun v hv hr => by
    cases hr with
    | refl => exact h.cmp s hs .refl
    | @step _ x hr hx => exact h.pre0 x (hp x (hsub x hx)) hx hr, by simp⟩
end
theorem pigeon : ∀ (n : Nat) (f : List Nat), f.Nodup → (∀ v ∈ f, v < n) → f.length ≤ n
  | 0, f, _, h => by
    cases f with
    | nil => simp
    | cons a f => exact absurd (h a (by simp)) (by omega)
  | n + 1, f, hn, h => by
    have h1 := pigeon n (f.erase n) (hn.erase n) (fun v hv => by
      have h2 := (hn.mem_erase_iff).1 hv
      have := h v h2.2
      have := h2.1
      omega)
    rw [List.length_erase] at h1
    split at h1 <;> omega
theorem rchN_of {n s : Nat} {E : Lk → Prop} (hE : ∀ x, E x → x.f < n ∧ x.t < n) (hs : s < n) {v : Nat} (h : Rch E s v) : RchN E s n v := by
  -- the sets of what is reached by k links grow, or stay for ever
  let S : Nat → Nat → Prop := fun k v => RchN E s k v
  have key : ∀ k, (∀ v, S (k + 1) v → S k v) ∨ ∃ f : List Nat, f.length = k + 2 ∧ f.Nodup ∧ ∀ v ∈ f, v < n ∧ S (k + 1) v := by
    intro k
    induction k with
    | zero =>
      by_cases hc : ∀ v, S 1 v → S 0 v
      · exact .inl hc
      · right
        simp only [Classical.not_forall] at hc
        obtain ⟨v, h1, h2⟩ := hc
        have hvn : v < n := by cases h1 with
          | refl => exact hs
          | step _ hx => exact (hE _ hx).2
        refine ⟨[v, s], rfl, ?_, ?_⟩
        · simp only [List.nodup_cons, List.mem_singleton, List.not_mem_nil, not_false_eq_true, List.nodup_nil, and_true]
          rintro rfl;exact h2 .refl
        · intro u hu
          simp at hu
          rcases hu with rfl | rfl
          · exact ⟨hvn, h1⟩
          · exact ⟨hs, .refl⟩
    | succ k ih =>
      by_cases hc : ∀ v, S (k + 2) v → S (k + 1) v
      · exact .inl hc
      · rcases ih with ih | ⟨f, f1, f2, f3⟩
        · -- nothing new came before: nothing new can come
          exfalso
          apply hc
          intro v hv
          cases hv with
          | refl => exact .refl
          | step hr hx => exact .step (ih _ hr) hx
        · right
          simp only [Classical.not_forall] at hc
          obtain ⟨v, h1, h2⟩ := hc
          have hvn : v < n := by cases h1 with
            | refl => exact hs
            | step _ hx => exact (hE _ hx).2
          refine ⟨v :: f, by simp [f1], List.nodup_cons.2 ⟨fun hm => h2 (f3 v hm).2, f2⟩, ?_⟩
          intro u hu
          simp at hu
          rcases hu with rfl | hu
          · exact ⟨hvn, h1⟩
          · exact ⟨(f3 u hu).1, (f3 u hu).2.mono (by omega)⟩
  have hcl : ∀ v, S (n + 1) v → S n v := by
    rcases key n with h | ⟨f, f1, f2, f3⟩
    · exact h
    · exfalso
      have : f.length ≤ n := pigeon n f f2 (fun v hv => (f3 v hv).1)
      omega
  induction h with
  | refl => exact .refl
  | step _ hx ih => exact hcl _ (.step ih hx)
theorem KInv.reach {n s : Nat} {E : Lk → Prop} {B : List Bool} (hE : ∀ x, E x → x.f < n ∧ x.t < n) (hs : s < n) (h : KInv n s E B n []) : IsReach n E s (bget B) :=
  fun v hv => ⟨h.snd v hv, fun hr => h.cmp v hv (rchN_of hE hs hr)⟩
end Go.Flow
/- The example of the chapter; the laws on maximum flows, cuts and paths, in plain words. No program in sight. No conditions. -/
namespace Go.Flow
/-! ### the laws -/
section
variable {n s t:Int} {l:List Arc}
theorem value_flw {F:List Int} {v:Int} (h:valueSpec n l F s t = (v,0)):∃ n' s' t':Nat,Good n l s t n' s' t' ∧ Flw n' l s' t' F ∧ v = fval s l F:=by
  unfold valueSpec at h
  split at h
  · rename_i h1; simp only [Prod.mk.injEq] at h; exact absurd h.2 h1
  · rename_i h1
    split at h
    · simp at h
    · rename_i h2
      split at h
      · simp at h
      · rename_i h3
        split at h
        · simp at h
        · rename_i h4
          split at h
          · simp at h
          · rename_i h5
            simp only [Prod.mk.injEq,and_true] at h
            have hm:maxErr n l s t = 0:=by
              unfold maxErr
              rw [if_neg h1,if_pos (by simpa using h2)]
            obtain ⟨n',s',t',g⟩:=maxErr_good hm
            obtain ⟨rfl,rfl,rfl⟩:=And.intro g.en (And.intro g.es g.et)
            refine ⟨n',s',t',g,⟨by omega,by simpa using h4,fun v hv g1 g2=>?_⟩,h.symm⟩
            simp only [Bool.not_eq_false] at h5;unfold balanced at h5;rw [List.all_eq_true] at h5
            have:=h5 v (by simpa using hv)
            rw [decide_eq_true_eq] at this
            rcases this with h | h | h
            · exact absurd (by omega) g1
            · exact absurd (by omega) g2
            · exact h
theorem side_chk (B:List Bool) (n:Nat):∀ (k:Nat),k ≤ n → ∀ (r:List Int) (p:Option Int),(∀ q,p = some q → ∃ m:Nat,q = m ∧ m < k) → sideChk n p (((List.range' k (n - k)).filter (fun v=>bget B v)).map (fun (v:Nat)=>(v:Int))) = 0:=by
  intro k hk r p hp
  generalize hd:n - k = d
  induction d generalizing k p with
  | zero=>simp [sideChk]
  | succ d ih =>
    rw [List.range'_succ,List.filter_cons]
    split
    · simp only [List.map_cons,sideChk]
      rw [if_neg (by omega),if_neg]
      · exact ih (k + 1) (by omega) _ (fun q hq=>⟨k,by simpa using hq.symm,by omega⟩) (by omega)
      · cases p with
        | none=>simp
        | some q =>
          obtain ⟨m,rfl,hm⟩:=hp q rfl
          simp; omega
    · exact ih (k + 1) (by omega) _ (fun q hq=>by obtain ⟨m,h1,h2⟩:=hp q hq; exact ⟨m,h1,by omega⟩) (by omega)
theorem sideOf_chk (B:List Bool) (n:Nat):sideChk n none (sideOf B n) = 0:=by
  have:=side_chk B n 0 (by omega) [] none (by simp)
  rw [Nat.sub_zero,← List.range_eq_range'] at this;exact this
end
end Go.Flow
/- Searches in slices of numbers; the example of the chapter. -/
namespace Go.Proofs.YtphehihohghfoaaGreat
open Go.Eng Go.Flow
set_option maxRecDepth 100000
set_option maxHeartbeats 4000000

end Go.Proofs.YtphehihohghfoaaGreat
/- The document's cuts. -/
namespace Go.Proofs.YtphehihohghfoaaGreat
open Go.Eng Go.Step
set_option maxRecDepth 100000
set_option maxHeartbeats 4000000

end Go.Proofs.YtphehihohghfoaaGreat
/- The reference: residual arcs, distances level by level, the first shortest path. -/
namespace Go.Proofs.YtphehihohghfoaaGreat
open Go.Eng Go.Flow
set_option maxRecDepth 100000
set_option maxHeartbeats 4000000

end Go.Proofs.YtphehihohghfoaaGreat
/- Bounds on what Max hands back; a capacity raised. No program in sight. No conditions. -/
namespace Go.Flow
end Go.Flow
/- The reference's list of residual arcs, as it is filled; rooms are bounded. No program in sight. No conditions. -/
namespace Go.Flow
end Go.Flow
/- The reference: the list of residual arcs, the first shortest path. -/
namespace Go.Proofs.YtphehihohghfoaaGreat
open Go.Eng Go.Flow
set_option maxRecDepth 100000
set_option maxHeartbeats 4000000

end Go.Proofs.YtphehihohghfoaaGreat
/- The reference: the first shortest path. -/
namespace Go.Proofs.YtphehihohghfoaaGreat
open Go.Eng Go.Flow
set_option maxRecDepth 100000
set_option maxHeartbeats 4000000

end Go.Proofs.YtphehihohghfoaaGreat
/- The reference: Max, Cut. -/
namespace Go.Proofs.YtphehihohghfoaaGreat
open Go.Eng Go.Flow
set_option maxRecDepth 100000
set_option maxHeartbeats 4000000

end Go.Proofs.YtphehihohghfoaaGreat
/- Results that lie in memory: a struct and two or three numbers. -/
namespace Go.Eng
variable {L:Env} {R H:List PH}
theorem resSEEE {fn:Func} {N:Bs} {M:Nat} {P:Program} {t u u' u'' b1:Nat} {T:TypeId} {v1:List Value} {v2 v3 v4:Value} (hr:fn.results = #[.cell t T,.tmp u,.tmp u',.tmp u'']) (ht:look L t = some (.pointer (some ⟨b1,0,none⟩))) (hu:look L u = some v2) (hu':look L u' = some v3) (hu'':look L u'' = some v4) (a1:aggP P T = some true)
    (n1:szP P T = some v1.length) (c1:Cells N R H b1 0 v1):∀ a w,Frm M L a → Sat N R H w → (results fn a.tmps).run P w = .ok (.tuple #[.agg v1.toArray,v2,v3,v4]) w:=by
  intro a w hf hs
  have e1:a.tmps[t]?.getD undef = .pointer (some ⟨b1,0,none⟩):=by simpa using hf.get t _ ht
  have e2:a.tmps[u]?.getD undef = v2:=by simpa using hf.get u _ hu
  have e3:a.tmps[u']?.getD undef = v3:=by simpa using hf.get u' _ hu'
  have e4:a.tmps[u'']?.getD undef = v4:=by simpa using hf.get u'' _ hu''
  have l1:=run_loadCells_list (P:=P) (w:=w) ⟨b1,0,none⟩ v1 (fun j v hv=>by rw [Addr.add_lit]; exact c1 w hs j v hv)
  simp [results,hr,e1,e2,e3,e4,loadVar,run_isAgg a1,run_sizeOf n1,l1,asAddr]
end Go.Eng
/- How much can be brought. -/
namespace Go.Proofs.YtphehihohghfoaaGreat
open Go.Eng Go.Step
set_option maxRecDepth 100000
set_option maxHeartbeats 4000000

set_option maxHeartbeats 32000000 in
theorem plMax_spec {ρ τ σ υ:PH} {pq pc pb ph:Option Addr} {kq kc kb kh:Nat} {qs:List Int} {cs:List Ct} {bs:List Bk} {hs:List Hd} (hT:TbAt ρ τ σ υ pq pc pb ph kq kc kb kh qs cs bs hs) (d:Dm) :
  Eng.Spec Tryz.prog (fv 27) [.agg #[.slice pq qs.length kq,.slice pc cs.length kc,.slice pb bs.length kb,.slice ph hs.length kh],.agg #[int d.s,int d.d,int d.v,int d.r,int d.e]] [ρ,τ,σ,υ] [] (fun r H'=>(validT qs cs bs hs d = true ∧ ∃ (pg:Option Addr) (kg:Nat) (pf:Option Addr) (kf:Nat) (F:List Int) (m:Int) (σg σf:PH),ArcsAt σg (.slice pg (arcsG qs cs bs hs d).length kg) (arcsG qs cs bs hs d) ∧ IntsAt σf (.slice pf F.length kf) F ∧ MaxN qs cs bs hs d F m 0 ∧ H' = [σg,σf] ∧ r = .tuple #[.agg #[int (vsN qs d),.slice pg (arcsG qs cs bs hs d).length kg,int (vtx d d.s d.r),int (vtx d d.d d.e)],.slice pf F.length kf,int m,int 0]) ∨ (validT qs cs bs hs d = false ∧ H' = [] ∧ r = .tuple #[.agg #[int 0,.slice none 0 0,int 0,int 0],.slice none 0 0,int 0,int 1])):=by
 refine spec_in (cap:=[]) Tryz.func27 rfl rfl Tryz.ntmps27 rfl envZ (fun N β=>?_)
 refine Aa ?_;refine BI (BK rfl) rfl rfl rfl ?_;rintro _ _ ⟨b1,rfl,rfl⟩;refine AS (ρ:=sng b1 _) takeZ ?_
 have ct:=rdB b1 29 [.slice pq qs.length kq,.slice pc cs.length kc,.slice pb bs.length kb,.slice ph hs.length kh]
 have ct0:=rdC ct 0
 have ct1:=rdC ct 1
 have ct2:=rdC ct 2
 have ct3:=rdC ct 3
 have ctp:RdP (sng b1 (.cells #[.slice pq qs.length kq,.slice pc cs.length kc,.slice pb bs.length kb,.slice ph hs.length kh] 29 (0,0))) b1 0 [.slice pq qs.length kq,.slice pc cs.length kc]:=rdP_sng (xs:=[.slice pq qs.length kq,.slice pc cs.length kc,.slice pb bs.length kb,.slice ph hs.length kh]) rfl
 refine BI (BK rfl) rfl rfl rfl ?_;rintro _ _ ⟨b2,rfl,rfl⟩;refine AS (ρ:=sng b2 _) takeZ ?_
 have cd:=rdB b2 31 [int d.s,int d.d,int d.v,int d.r,int d.e]
 have cd0:=rdC cd 0
 have cd1:=rdC cd 1
 have cd2:=rdC cd 2
 have cd3:=rdC cd 3
 have cd4:=rdC cd 4
 refine AW ?_; rintro _ _ ⟨b,rfl,rfl⟩;refine Acu ?_;refine Ab5 ?_
 revert b; intro b4
 refine BZ (Graph_spec hT d) rfl rfl rdZ rfl rfl ?_;rintro _ σg hg
 cases hv:validT qs cs bs hs d with
 | false =>
  rw [hv,if_neg (by simp)] at hg
  obtain ⟨rfl,rfl⟩:=hg
  refine Aa7 ?_;refine AW ?_; rintro _ _ ⟨b,rfl,rfl⟩;refine AV ?_; rintro _ _ ⟨rfl,rfl⟩;refine Aeg ?_;refine Acm ?_;refine Aa ?_;refine BS ?_;refine AV ?_; rintro _ _ ⟨rfl,rfl⟩;refine Acu ?_;exact AI (resSEEE (b1:=b4) (T:=69) (v1:=[int 0,.slice none 0 0,int 0,int 0]) rfl rfl rfl rfl rfl rfl rfl (cells_own memZ)) rsubZ selZ (.inr ⟨rfl,rfl,rfl⟩)
 | true =>
 rw [hv,if_pos rfl] at hg
 obtain ⟨ug,rfl,hOg⟩:=hg
 have hAt:ArcsAt σg ug (arcsG qs cs bs hs d):=hOg.at
 obtain ⟨pg,kg,rfl⟩:=hOg.form
 have h:=vok hv
 have hEl:=ea_len qs cs bs hs d h
 have hAl:(arcsG qs cs bs hs d).length = (arcsE qs cs bs hs d).length:=by unfold arcsG; rw [List.length_map]
 have hM:=flowMax_spec σg (.slice pg (arcsG qs cs bs hs d).length kg) (vsN qs d) (vtx d d.s d.r) (vtx d d.d d.e) (arcsG qs cs bs hs d) hAt (by omega)
 refine Aa7 ?_;refine AW ?_; rintro _ _ ⟨b,rfl,rfl⟩;refine AV ?_; rintro _ _ ⟨rfl,rfl⟩;refine Aeg ?_;refine Abc ?_;refine Ace ?_;refine Ad6 ?_;refine BZ hM rfl rfl rdZ rfl rfl ?_;rintro _ σf ⟨fs,F,m,e,rfl,hF,hm⟩
 obtain ⟨he,_⟩:=max_cut h (show MaxN qs cs bs hs d F m e from hm)
 subst he
 obtain ⟨pf,kf,rfl,_⟩:=hF.val Eng.encI_len
 refine Aa7 ?_;refine AO ?_;refine Acu ?_;refine Aam ?_;refine Abc ?_;refine Abo ?_;refine Aax ?_;refine AV ?_; rintro _ _ ⟨rfl,rfl⟩;refine Acu ?_;exact AI (resSEEE (b1:=b4) (T:=69) (v1:=[int (vsN qs d),.slice pg (arcsG qs cs bs hs d).length kg,int (vtx d d.s d.r),int (vtx d d.d d.e)]) rfl rfl rfl rfl rfl rfl rfl (cells_own memZ)) rsubZ selZ (.inl ⟨rfl,pg,kg,pf,kf,F,m,σg,σf,hAt,hF,hm,rfl,rfl⟩)
set_option maxHeartbeats 16000000 in
theorem Most_spec {ρ τ σ υ:PH} {pq pc pb ph:Option Addr} {kq kc kb kh:Nat} {qs:List Int} {cs:List Ct} {bs:List Bk} {hs:List Hd} (hT:TbAt ρ τ σ υ pq pc pb ph kq kc kb kh qs cs bs hs) (d:Dm) :
  Ans Tryz.prog (fv 9) [.agg #[.slice pq qs.length kq,.slice pc cs.length kc,.slice pb bs.length kb,.slice ph hs.length kh],.agg #[int d.s,int d.d,int d.v,int d.r,int d.e]] [ρ,τ,σ,υ] (fun r=>(validT qs cs bs hs d = true ∧ ∃ (F:List Int) (m:Int),MaxN qs cs bs hs d F m 0 ∧ r = .tuple #[int m,int 0]) ∨ (validT qs cs bs hs d = false ∧ r = .tuple #[int 0,int 1])):=by
 refine spec_in (cap:=[]) Tryz.func9 rfl rfl Tryz.ntmps9 rfl envZ (fun N β=>?_)
 refine Aa ?_;refine BI (BK rfl) rfl rfl rfl ?_;rintro _ _ ⟨b1,rfl,rfl⟩;refine AS (ρ:=sng b1 _) takeZ ?_
 have ct:=rdB b1 29 [.slice pq qs.length kq,.slice pc cs.length kc,.slice pb bs.length kb,.slice ph hs.length kh]
 have ct0:=rdC ct 0
 have ct1:=rdC ct 1
 have ct2:=rdC ct 2
 have ct3:=rdC ct 3
 have ctp:RdP (sng b1 (.cells #[.slice pq qs.length kq,.slice pc cs.length kc,.slice pb bs.length kb,.slice ph hs.length kh] 29 (0,0))) b1 0 [.slice pq qs.length kq,.slice pc cs.length kc]:=rdP_sng (xs:=[.slice pq qs.length kq,.slice pc cs.length kc,.slice pb bs.length kb,.slice ph hs.length kh]) rfl
 refine BI (BK rfl) rfl rfl rfl ?_;rintro _ _ ⟨b2,rfl,rfl⟩;refine AS (ρ:=sng b2 _) takeZ ?_
 have cd:=rdB b2 31 [int d.s,int d.d,int d.v,int d.r,int d.e]
 have cd0:=rdC cd 0
 have cd1:=rdC cd 1
 have cd2:=rdC cd 2
 have cd3:=rdC cd 3
 have cd4:=rdC cd 4
 refine Aan ?_;refine Ab5 ?_;refine BF (plMax_spec hT d) rfl rfl Takes.nil rdZ rfl rfl ?_;rintro _ H' (⟨hv,pg,kg,pf,kf,F,m,σg,σf,hAt,hF,hm,rfl,rfl⟩ | ⟨hv,rfl,rfl⟩)
 ·refine AB ?_
  refine Aa5 ?_;refine Aa5 ?_;refine AW ?_; rintro _ _ ⟨b,rfl,rfl⟩;refine AV ?_; rintro _ _ ⟨rfl,rfl⟩;refine Acu ?_;refine Abn ?_;refine Aan ?_;exact AI (res2 rfl rfl rfl) rsubZ selZ ⟨rfl,.inl ⟨hv,F,m,hm,rfl⟩⟩
 ·refine AB ?_
  refine Aa5 ?_;refine Aa5 ?_;refine AW ?_; rintro _ _ ⟨b,rfl,rfl⟩;refine AV ?_; rintro _ _ ⟨rfl,rfl⟩;refine Acu ?_;refine Abn ?_;refine Aan ?_;exact AI (res2 rfl rfl rfl) rsubZ selZ ⟨rfl,.inr ⟨hv,rfl⟩⟩
end Go.Proofs.YtphehihohghfoaaGreat
/- What Paths hands back. No program in sight. No conditions. -/
namespace Go.Flow
def PathsOK (n:Int) (l:List Arc) (fl:List Int) (s t:Int) (ps:List (List Lk × Int)) (e:Int):Prop:=
  ((valueSpec n l fl s t).2 ≠ 0 ∧ e = (valueSpec n l fl s t).2 ∧ ps = []) ∨
  ((valueSpec n l fl s t).2 = 0 ∧ e = 0 ∧ ∃ r,RunP n.toNat l s.toNat t.toNat fl ps r)
theorem value_good {n s t:Int} {l:List Arc} {fl:List Int} (h:(valueSpec n l fl s t).2 = 0):∃ n' s' t':Nat,Good n l s t n' s' t' ∧ Flw n' l s' t' fl ∧ (valueSpec n l fl s t).1 = fval s l fl:=by
  obtain ⟨n',s',t',g,hF,hv⟩:=value_flw (F:=fl) (v:=(valueSpec n l fl s t).1) (by rw [← h])
  exact ⟨n',s',t',g,hF,hv⟩
theorem PathsOK.uniq {n s t e f:Int} {l:List Arc} {fl:List Int} {ps qs:List (List Lk × Int)} (h1:PathsOK n l fl s t ps e) (h2:PathsOK n l fl s t qs f):ps = qs ∧ e = f:=by
  rcases h1 with ⟨a1,a2,a3⟩ | ⟨a1,a2,r1,a3⟩ <;> rcases h2 with ⟨b1,b2,b3⟩ | ⟨b1,b2,r2,b3⟩
  · exact ⟨by rw [a3,b3],by rw [a2,b2]⟩
  · exact absurd b1 a1
  · exact absurd a1 b1
  · obtain ⟨n',s',t',g,_,_⟩:=value_good a1
    obtain ⟨rfl,rfl,rfl⟩:=And.intro g.en (And.intro g.es g.et)
    simp only [Int.toNat_natCast] at a3 b3
    exact ⟨(a3.uniq g.ok b3).1,by rw [a2,b2]⟩
theorem RunP.cons {n s t:Nat} {l:List Arc} {fl r:List Int} {p:List Lk × Int} {ps:List (List Lk × Int)} (h:RunP n l s t fl (p :: ps) r) :
    ∃ D,IsDist n t (pE l fl) D ∧ 0 ≤ D.getD s 0 ∧ p.1 = pP l fl D s ∧ p.2 = pRoom l fl D s ∧ RunP n l s t (pNext l fl D s) ps r:=by
  cases h with
  | step hD h0 hr=>exact ⟨_,hD,h0,rfl,rfl,hr⟩
theorem RunP.nil {n s t:Nat} {l:List Arc} {fl r:List Int} (h:RunP n l s t fl [] r):r = fl ∧ ∃ D,IsDist n t (pE l fl) D ∧ D.getD s 0 < 0:=by
  cases h with
  | done hD hn=>exact ⟨rfl,_,hD,hn⟩
end Go.Flow
namespace Go.Flow
/-! ### each path uses up an arc -/
def npos (l:List Int):Nat:=l.countP (fun x=>decide (0 < x))
theorem npos_le:∀ (a b:List Int),a.length = b.length → (∀ k:Nat,b.getD k 0 ≤ a.getD k 0) → npos b ≤ npos a
  | [],[],_,_=>Nat.le_refl _
  | x :: a,y :: b,hl,h=>by
    have ih:=npos_le a b (by simpa using hl) (fun k=>by simpa using h (k + 1))
    have h0:=h 0
    simp only [List.getD_cons_zero] at h0;unfold npos at ih ⊢;simp only [List.countP_cons]
    by_cases h1:0 < y
    · rw [if_pos (by simpa using h1),if_pos (by simp; omega)]; omega
    · rw [if_neg (by simpa using h1)]; omega
theorem npos_lt:∀ (a b:List Int),a.length = b.length → (∀ k:Nat,b.getD k 0 ≤ a.getD k 0) → ∀ j:Nat,0 < a.getD j 0 → b.getD j 0 ≤ 0 → npos b + 1 ≤ npos a
  | [],[],_,_,j,h1,_=>by simp at h1
  | x :: a,y :: b,hl,h,0,h1,h2=>by
    have ih:=npos_le a b (by simpa using hl) (fun k=>by simpa using h (k + 1))
    simp only [List.getD_cons_zero] at h1 h2;unfold npos at ih ⊢;simp only [List.countP_cons]
    rw [if_neg (by simp; omega),if_pos (by simpa using h1)]; omega
  | x :: a,y :: b,hl,h,j + 1,h1,h2=>by
    have ih:=npos_lt a b (by simpa using hl) (fun k=>by simpa using h (k + 1)) j (by simpa using h1) (by simpa using h2)
    have h0:=h 0
    simp only [List.getD_cons_zero] at h0;unfold npos at ih ⊢;simp only [List.countP_cons]
    by_cases h3:0 < y
    · rw [if_pos (by simpa using h3),if_pos (by simp; omega)]; omega
    · rw [if_neg (by simpa using h3)]; omega
theorem subP_le {room:Int} (h0:0 ≤ room) (rest:List Int) (x:Lk) (k:Nat):(subP room rest x).getD k 0 ≤ rest.getD k 0:=by
  unfold subP
  by_cases e:x.k = k
  · subst e
    by_cases hl:x.k < rest.length
    · rw [getD_set hl,if_pos rfl]; omega
    · rw [List.set_eq_of_length_le (by omega)]; exact Int.le_refl _
  · rw [getD_set' e]; exact Int.le_refl _
theorem subAll_le {room:Int} (h0:0 ≤ room):∀ (p:List Lk) (rest:List Int) (k:Nat),(subAll room rest p).getD k 0 ≤ rest.getD k 0
  | [],rest,k=>Int.le_refl _
  | x :: p,rest,k=>Int.le_trans (subAll_le h0 p (subP room rest x) k) (subP_le h0 rest x k)
theorem subAll_used {room:Int} (h0:0 ≤ room):∀ (p:List Lk) (rest:List Int) (x:Lk),x ∈ p → x.k < rest.length → (subAll room rest p).getD x.k 0 ≤ rest.getD x.k 0 - room
  | [],rest,x,hx,_=>by simp at hx
  | y :: p,rest,x,hx,hl=>by
    simp at hx
    rcases hx with rfl | hx
    · refine Int.le_trans (subAll_le h0 p (subP room rest x) x.k) ?_
      unfold subP;rw [getD_set hl,if_pos rfl]; exact Int.le_refl _
    · have:=subAll_used h0 p (subP room rest y) x hx (by rw [subP_len]; exact hl)
      have:=subP_le h0 rest y x.k
      show (subAll room (subP room rest y) p).getD x.k 0 ≤ _
      omega
theorem least_attained (rm:Nat → Int):∀ (p:List Lk) (m:Int),p.foldl (fun m x=>min m (rm x.k)) m = m ∨ ∃ x ∈ p,rm x.k = p.foldl (fun m x=>min m (rm x.k)) m
  | [],m=>.inl rfl
  | y :: p,m=>by
    simp only [List.foldl_cons]
    rcases least_attained rm p (min m (rm y.k)) with h | ⟨x,hx,h⟩
    · rw [h]
      by_cases hc:m ≤ rm y.k
      · left; omega
      · right; exact ⟨y,by simp,by omega⟩
    · right; exact ⟨x,by simp [hx],h⟩
theorem pNext_pos {n s t:Nat} {l:List Arc} (hok:∀ a ∈ l,okArc n a = true) (hs:s < n) (hst:s ≠ t) {fl D:List Int} (hf:Flw n l s t fl) (hD:IsDist n t (pE l fl) D) (h0:0 ≤ D.getD s 0):npos (pNext l fl D s) + 1 ≤ npos fl:=by
  obtain ⟨k,hk⟩:=Int.eq_ofNat_of_zero_le h0
  have hch:=path_chn (pl_lt hok) hD k s hs hk
  have hlen:(pP l fl D s).length = k:=path_len (pl_lt hok) hD k s hs hk
  have hpos:=(pNext_ok hok hs hst hf hD h0).2.1
  have hk0:k ≠ 0:=fun e=>by
    subst e
    exact hst (hD.zero s hs (by omega))
  have hatt:∃ x ∈ pP l fl D s,rmP fl x.k = pRoom l fl D s:=by
    rcases least_attained (rmP fl) (pP l fl D s) 1099511627776 with h | h
    · have hne:pP l fl D s ≠ []:=fun e=>by rw [e] at hlen; simp at hlen; omega
      obtain ⟨x,p,hxp⟩:=List.exists_cons_of_ne_nil hne
      refine ⟨x,by rw [hxp]; simp,?_⟩
      have hle:=(leastR_le (rmP fl) (pP l fl D s) 1099511627776).2 x (by rw [hxp]; simp)
      have hxP:x ∈ pP l fl D s:=by rw [hxp]; simp
      have hxm:=(hch.all x hxP).1.1
      obtain ⟨j,a,ha,rfl⟩:=plinks_iff.1 hxm
      have hjl:j < l.length:=(List.getElem?_eq_some_iff.1 ha).1
      have hfj:fl[j]? = some (fl.getD j 0):=by have:=hf.len; simp [List.getD_eq_getElem?_getD,show j < fl.length by omega]
      have hin:=inCap_get l fl hf.cap j a _ ha hfj
      have hka:=okArc_iff.1 (hok a (List.mem_of_getElem? ha))
      show fl.getD j 0 = _
      have h9:pRoom l fl D s = 1099511627776:=h
      have h10:pRoom l fl D s ≤ fl.getD j 0:=hle
      omega
    · exact h
  obtain ⟨x,hx,hxr⟩:=hatt
  have hxk:x.k < fl.length:=by rw [← hf.len]; exact pl_k (hch.all x hx).1.1
  refine npos_lt fl _ (by rw [subAll_len]) (fun k=>subAll_le (Int.le_of_lt hpos) _ _ k) x.k ?_ ?_
  · have h2:fl.getD x.k 0 = pRoom l fl D s:=hxr
    rw [h2]; exact hpos
  · have h1:=subAll_used (Int.le_of_lt hpos) (pP l fl D s) fl x hx hxk
    have h2:fl.getD x.k 0 = pRoom l fl D s:=hxr
    rw [h2,Int.sub_self] at h1;exact h1
theorem npos_len (l:List Int):npos l ≤ l.length:=List.countP_le_length
end Go.Flow
namespace Go.Flow
theorem RunP.small {n s t:Nat} {l:List Arc} (hok:∀ a ∈ l,okArc n a = true) (hs:s < n) (ht:t < n) (hst:s ≠ t) {fl r:List Int} {ps:List (List Lk × Int)} (h:RunP n l s t fl ps r):Flw n l s t fl → ps.length ≤ npos fl ∧ ∀ p ∈ ps,p.1.length ≤ n:=by
  induction h with
  | done=>intro _; simp
  | @step fl D r ps hD h0 _ ih =>
    intro hf
    obtain ⟨hN1,_,_⟩:=pNext_ok hok hs hst hf hD h0
    have hp:=pNext_pos hok hs hst hf hD h0
    obtain ⟨i1,i2⟩:=ih hN1
    refine ⟨by simp only [List.length_cons]; omega,fun p hp=>?_⟩
    simp at hp
    rcases hp with rfl | hp
    · obtain ⟨k,hk⟩:=Int.eq_ofNat_of_zero_le h0
      have h3:(pP l fl D s).length = k:=path_len (pl_lt hok) hD k s hs hk
      have h2:=hD.lt (fun x hx=>pl_lt hok x hx.1) ht hs
      dsimp only
      omega
    · exact i2 p hp
theorem paths_small {n s t e:Int} {l:List Arc} {fl:List Int} {ps:List (List Lk × Int)} (h:PathsOK n l fl s t ps e):ps.length ≤ 20000 ∧ ∀ p ∈ ps,p.1.length ≤ 2000:=by
  rcases h with ⟨_,_,rfl⟩ | ⟨a1,_,r,a3⟩
  · simp
  · obtain ⟨n',s',t',g,hF,_⟩:=value_good a1
    obtain ⟨rfl,rfl,rfl⟩:=And.intro g.en (And.intro g.es g.et)
    simp only [Int.toNat_natCast] at a3
    obtain ⟨h1,h2⟩:=a3.small g.ok g.sn g.tn g.ne hF
    have:=npos_len fl
    have:=hF.len
    have:=g.l2
    have:=g.n2
    exact ⟨by omega,fun p hp=>by have:=h2 p hp; omega⟩
end Go.Flow
/- Paths of the program. -/
namespace Go.Proofs.YtphehihohghfoaaGreat
open Go.Eng Go.Flow
set_option maxRecDepth 100000
set_option maxHeartbeats 4000000

theorem ints_one (l:List Int):∀ u ∈ l.flatMap Eng.encI,u.oneCell' = true:=by
 intro u hu
 rw [List.mem_flatMap] at hu
 obtain ⟨a,_,hu⟩:=hu
 simp only [Eng.encI,List.mem_cons,List.not_mem_nil,or_false] at hu;subst hu; rfl
theorem cloneInt_spec (ρ:PH) (v:Value) (l:List Int) (hv:IntsAt ρ v l) (hl:l.length ≤ 1000000) :
  Makes Tryz.prog (fv 65) [v] [ρ] (fun r σ=>OwnS 3 1 r l.length (l.flatMap Eng.encI) σ):=by
 have hv2:=hv
 obtain ⟨q,c,rfl,hr⟩:=hv.val Eng.encI_len
 refine spec_in (cap:=[]) Tryz.func65 rfl rfl Tryz.ntmps65 rfl envZ (fun N β=>?_)
 cases q with
 | none =>
  have hnil:l = []:=by
   cases l with
   | nil=>rfl
   | cons a l =>
    obtain ⟨b,o,e,_⟩:=hr 0 a rfl
    simp at e
  subst hnil;refine BY ?_;refine Aaj ?_;refine Aam ?_
  focus ((refine' CE _ rfl rfl rfl _; rotate_left; (apply GP; exact rfl; exact rfl; exact rfl)))
  refine Aaz ?_;exact AI (res1 rfl rfl) rsubZ selZ ⟨emp,OwnS.nil _ _,rfl⟩
 | some ad =>
  refine Aaj ?_;refine Aam ?_
  focus ((refine' CE _ rfl rfl rfl _; rotate_left; (apply GQ; exact rfl; exact rfl; exact rfl)))
  refine Aal ?_;refine Aa ?_;refine BH ?_; rintro _ _ ⟨b,rfl,rfl⟩;refine AB ?_
  rcases Nat.eq_zero_or_pos l.length with h0 | h0
  ·have hnil:l = []:=List.eq_nil_of_length_eq_zero h0
   subst hnil
   focus ((refine' CE _ rfl rfl rfl _; rotate_left; (apply FJ; exact rfl; exact rfl; exact rfl; exact rfl; omega)))
   refine Aab ?_;exact AI (res1 rfl rfl) rsubZ selZ ⟨_,OwnS.empty,rfl⟩
  ·obtain ⟨b2,o2,c2,e,hcell⟩:=SlAt.some hv2 h0
   simp only [Value.slice.injEq,Option.some.injEq,true_and] at e
   obtain ⟨rfl,rfl⟩:=e
   refine BI (B6 (by_:=8) (s:=1) (news:=l.flatMap Eng.encI) rfl rfl rfl rfl rfl rfl rfl (OwnS.empty (b:=b)) takeZ (cellsR (ρ:=ρ) hcell memZ) (flat_len Eng.encI_len l) (ints_one l) h0 (by simp only [maxLen]; omega) (by omega)) rfl rfl rfl ?_
   rintro r1 _ ⟨σ,hO,rfl⟩;refine Aab ?_;refine AI (res1 rfl rfl) rsubZ selZ ⟨σ,?_,rfl⟩
   simpa using hO
theorem OwnS.num {e:TypeId} {b n cap:Nat} {l:List Int} {ρ:PH} (h:OwnS e 1 (.slice (some ⟨b,0,none⟩) n cap) l.length (l.flatMap Eng.encI) ρ) {i:Nat} (hi:i < l.length):rdc ρ b i = some (int (l.getD i 0)):=by
 have hS:SlE Eng.encI 1 ρ (.slice (some ⟨b,0,none⟩) n cap) l:=h.at
 obtain ⟨p,c,e1,hr⟩:=hS.val Eng.encI_len
 simp only [Value.slice.injEq] at e1
 obtain ⟨b',o',e2,h2⟩:=hr.int (List.getElem?_eq_getElem hi)
 rw [← e1.1] at e2;simp only [Option.some.injEq,Addr.mk.injEq,and_true] at e2
 obtain ⟨rfl,rfl⟩:=e2
 rw [Nat.zero_add] at h2;rw [h2]
 simp [List.getD_eq_getElem?_getD,hi]
theorem OwnS.some_of {e:TypeId} {s:Nat} {v:Value} {l:List Int} {ρ:PH} (h:OwnS e s v l.length (l.flatMap Eng.encI) ρ) (h0:0 < l.length):∃ b cap,v = .slice (some ⟨b,0,none⟩) l.length cap:=by
 rcases h.block with ⟨_,h2,_⟩ | ⟨b,cap,cur,h2,_⟩
 ·rw [h2] at h0; simp at h0
 ·exact ⟨b,cap,h2⟩
abbrev roomP (b:Nat):Value:=.func (.func 67) #[] #[.pointer (some ⟨b,0,none⟩)]
theorem paths1_spec (ρ:PH) (b k:Nat) (T e:TypeId) (rv:Value) (rest:List Int) (hO:OwnS e 1 rv rest.length (rest.flatMap Eng.encI) ρ) (hk:k < rest.length) :
  Ans Tryz.prog (roomP b) [int k] [sng b (.cells #[rv] T (0,0)),ρ] (fun r=>r = int (rmP rest k)):=by
 obtain ⟨br,cap,rfl⟩:=OwnS.some_of hO (by omega)
 have c1:rdc (sng b (.cells #[.slice (some ⟨br,0,none⟩) rest.length cap] T (0,0))) b 0 = some (.slice (some ⟨br,0,none⟩) rest.length cap):=by rw [rdc_sng]; rfl
 have c2:=OwnS.num hO hk
 refine spec_in (cap:=[.pointer (some ⟨b,0,none⟩)]) Tryz.func67 rfl rfl Tryz.ntmps67 rfl envZ (fun N β=>?_)
 refine Aaj ?_;refine Ac4 ?_;refine Adm ?_;refine Aab ?_;exact AI (res1 rfl rfl) rsubZ selZ ⟨rfl,rfl⟩

def encPV (x:Value × Int):List Value:=[x.1,int x.2]
theorem encPV_len (x:Value × Int):(encPV x).length = 2:=rfl
def ArcsIn (σ:PH) (es:List (Value × Int)) (ps:List (List Lk × Int)):Prop:=
 es.length = ps.length ∧ ∀ (i:Nat) (e:Value × Int) (p:List Lk × Int),es[i]? = some e → ps[i]? = some p → e.2 = p.2 ∧ IntsAt σ e.1 (ksOf p.1)
theorem ArcsIn.nil (σ:PH):ArcsIn σ [] []:=⟨rfl,by intro i e p h; simp at h⟩
theorem ArcsIn.sub {σ τ:PH} {es:List (Value × Int)} {ps:List (List Lk × Int)} (h:ArcsIn σ es ps) (hs:PH.sub σ τ):ArcsIn τ es ps:=⟨h.1,fun i e p h1 h2=>⟨(h.2 i e p h1 h2).1,hs.slE (h.2 i e p h1 h2).2⟩⟩
theorem ArcsIn.snoc {σ:PH} {es:List (Value × Int)} {ps:List (List Lk × Int)} {e:Value × Int} {p:List Lk × Int} (h:ArcsIn σ es ps) (h1:e.2 = p.2) (h2:IntsAt σ e.1 (ksOf p.1)):ArcsIn σ (es ++ [e]) (ps ++ [p]):=by
 refine ⟨by simp [h.1],fun i e' p' k1 k2=>?_⟩
 by_cases hi:i < es.length
 ·rw [List.getElem?_append_left hi] at k1
  rw [List.getElem?_append_left (by rw [← h.1]; exact hi)] at k2
  exact h.2 i e' p' k1 k2
 ·rw [List.getElem?_append_right (by omega)] at k1
  rw [List.getElem?_append_right (by rw [← h.1]; omega)] at k2
  have hz:i - es.length = 0:=by
   have:=(List.getElem?_eq_some_iff.1 k1).1
   simp at this; omega
  rw [hz] at k1;rw [← h.1,hz] at k2
  simp at k1 k2
  subst k1; subst k2;exact ⟨h1,h2⟩
def PathsAt (σ:PH) (u:Value) (ps:List (List Lk × Int)):Prop:=∃ es,SlE encPV 2 σ u es ∧ ArcsIn σ es ps

set_option maxHeartbeats 8000000 in
theorem flowPaths_spec (ρ σ:PH) (v u:Value) (n s t:Int) (l:List Arc) (fl:List Int) (hv:ArcsAt ρ v l) (hu:IntsAt σ u fl) (hl:l.length ≤ 1000000) :
  Makes Tryz.prog (fv 32) [int n,v,u,int s,int t] [ρ,σ] (fun r τ=>∃ w ps e,r = .tuple #[w,int e] ∧ PathsAt τ w ps ∧ PathsOK n l fl s t ps e):=by
 have hnil:PathsAt emp (.slice none 0 0) []:=⟨[],⟨rfl,.inl ⟨rfl,none,0,rfl⟩⟩,ArcsIn.nil _⟩
 have hv2:=hv
 obtain ⟨q,c,rfl,hr⟩:=hv.val encA_len
 refine spec_in (cap:=[]) Tryz.func32 rfl rfl Tryz.ntmps32 rfl envZ (fun N β=>?_)
 refine Acf ?_;refine Aam ?_;refine Aax ?_;refine Aax ?_;refine A3 (flowValue_spec ρ σ _ u n s t l fl hv2 hu hl) rfl rfl rdZ rfl rfl ?_;rintro _ rfl
 by_cases h0:(valueSpec n l fl s t).2 = 0
 rotate_left
 ·refine AB ?_
  refine Aa5 ?_;refine Aan ?_;refine Aad ?_;refine Acm ?_;refine Adu ?_;refine BY ?_;exact AI (res2 rfl rfl rfl) rsubZ selZ ⟨emp,⟨_,[],_,rfl,hnil,.inl ⟨h0,rfl,rfl⟩⟩,rfl⟩
 obtain ⟨n',s',t',g,hF0,_⟩:=value_good h0
 obtain ⟨rfl,rfl,rfl⟩:=And.intro g.en (And.intro g.es g.et)
 have hn2:=g.n2
 have hl2:=g.l2
 have hpl:=pl_lt g.ok
 have hcap:∀ a ∈ l,0 ≤ a.c ∧ a.c ≤ 1099511627776:=fun a ha=>by have:=okArc_iff.1 (g.ok a ha); omega
 have hpk:∀ x ∈ plinks l,x.f < n' ∧ x.t < n' ∧ x.k ≤ 40000:=fun x hx=>by have:=hpl x hx; have:=pl_k hx; omega
 have hGok:GOk n' (outsOf (plinks l)) (insOf (plinks l)):=GOk_of hn2 (by rw [plinks_len]; omega) hpk
 refine Ac0 ?_;refine Abc ?_;refine Aad ?_
 refine BZ (cloneInt_spec σ u fl hu (by rw [← hF0.len]; omega)) rfl rfl rdZ rfl rfl ?_
 rintro rv ρr hO
 have hrv1:rv.oneCell' = true:=OwnS.one hO
 refine BI (EX rfl rfl) rfl rfl rfl ?_;rintro _ _ ⟨bb,rfl,rfl⟩;refine CD (D6 rfl rfl hrv1 rfl takeZ SetL.here) rfl rfl ?_;rintro _ _ ⟨rfl,rfl⟩;refine Adb ?_;refine BX ?_;refine BF (newGraph_spec n' 67 [.pointer (some ⟨bb,0,none⟩)] hn2) rfl rfl takesZ rdZ rfl rfl ?_;rintro _ _ ⟨gb,ob,ib,rfl,rfl⟩;simp only [List.cons_append,List.nil_append]
 have hG0:=GBl_new gb ob ib n' (roomP bb)
 refine EG (n' + n') ?_;simp only [List.cons_append,List.nil_append];refine Aab ?_;refine Ab8 ?_
 refine BC [0,1,3,4,14,15,41,42] (X:=Nat × List PH) (0,_) (fun x=>x.1 ≤ l.length ∧ GBl gb ob ib n' (roomP bb) (plinks (l.take x.1)) x.2) (fun x=>[(43,int x.1)])
  (fun x=>sng bb (.cells #[rv] 22 (0,0)) :: ρr :: x.2) (fun x=>l.length - x.1) pickZ ⟨by simp,hG0⟩ covZ ?_ ?_
 ·refine Sel.cons takeZ (Sel.cons takeZ (Sel.cons takeZ (Sel.cons takeZ (Sel.cons takeZ ?_))))
  rw [List.replicate_append_replicate];exact Sel.refl
 rintro ⟨k,Hg⟩ ⟨hk,hG⟩
 dsimp only at hk hG ⊢
 by_cases hlt:k < l.length
 ·have hx:=List.getElem?_eq_getElem hlt
  obtain ⟨b',o,rfl,hA,h0',h1',h2'⟩:=arcRow hr hx
  obtain ⟨g1,g2,g3,g4,g5,g6,g7⟩:=okArc_iff.1 (g.ok l[k] (List.getElem_mem hlt))
  obtain ⟨f,hf⟩:=Int.eq_ofNat_of_zero_le g1
  obtain ⟨t2,ht2⟩:=Int.eq_ofNat_of_zero_le g3
  have hlr:=plinks_len (l.take k)
  have hlk:(l.take k).length = k:=by simp; omega
  have hsn:=plinks_snoc (l.take k) l[k]
  rw [← take_snoc' hlt,hlk,hf,ht2] at hsn;simp only [Int.toNat_natCast] at hsn;rw [hf,ht2] at hA
  have a1:=add_bl hG k f t2 (by omega) (by omega) (by omega)
  refine Adi ?_;refine AW ?_; rintro _ _ ⟨b,rfl,rfl⟩;refine AD ?_;refine AV ?_; rintro _ _ ⟨rfl,rfl⟩;refine Adx ?_;refine AB ?_;refine Aa9 ?_;refine BF a1 rfl rfl (Takes.skips [_,_,_] Takes.all) rdZ rfl rfl ?_;rintro _ H1 ⟨rfl,hG1⟩
  refine CF (H':=sng b (.cells #[int (f:Int),int (t2:Int),int l[k].c] 141 (0,0)) :: sng bb (.cells #[rv] 22 (0,0)) :: ρr :: H1) (by simpa using List.perm_append_comm (l₁:=H1) (l₂:=[_,_,_])) ?_
  refine Ade ?_
  refine AZ (k + 1,H1) ⟨by dsimp only; omega,?_⟩ (by dsimp only; omega) covZ (Sel.cons takeZ (Sel.cons takeZ (Sel.skip Sel.refl)))
  dsimp only
  rw [hsn];exact hG1
 rw [List.take_of_length_le (by omega)] at hG
 refine CF (H':=Hg ++ [sng bb (.cells #[rv] 22 (0,0)),ρr]) (by simpa using List.perm_append_comm (l₂:=Hg) (l₁:=[_,_])) ?_
 refine DM (fun γ hγ=>?_)
 have hGA:=hG.at hγ
 refine AS (ρ:=γ) takeZ ?_;refine BY ?_;refine BY ?_;refine Abt ?_;refine Aaj ?_;refine AP ?_
 refine BC [0,1,3,4,14,15] (X:=(List Int × List (List Lk × Int)) × ((Value × List (Value × Int)) × ((PH × PH) × PH))) ((fl,[]),((.slice none 0 0,[]),((emp,emp),ρr)))
  (fun x=>Flw n' l s' t' x.1.1 ∧ (∀ ps r,RunP n' l s' t' x.1.1 ps r → RunP n' l s' t' fl (x.1.2 ++ ps) r) ∧ OwnS 3 1 rv x.1.1.length (x.1.1.flatMap Eng.encI) x.2.2.2 ∧ OwnS 87 2 x.2.1.1 x.2.1.2.length (x.2.1.2.flatMap encPV) x.2.2.1.1 ∧ ArcsIn x.2.2.1.2 x.2.1.2 x.1.2 ∧ x.1.2.length + npos x.1.1 ≤ l.length)
  (fun x=>[(18,x.2.1.1)]) (fun x=>[sng bb (.cells #[rv] 22 (0,0)),x.2.2.2,x.2.2.1.1,x.2.2.1.2]) (fun x=>(fval s' l x.1.1 + 1099511627776 * (2 * (l.length:Int))).toNat)
  pickZ ⟨hF0,fun _ _ h=>h,hO,OwnS.nil _ _,ArcsIn.nil _,by have:=npos_len fl; have:=hF0.len; dsimp only [List.length_nil]; omega⟩ covZ selZ ?_
 rintro ⟨⟨rest,ps⟩,⟨⟨ov,es⟩,⟨⟨ρo,ρa⟩,ρ1⟩⟩⟩ ⟨hF,hrun,hO1,hOo,hAr,hcnt⟩
 dsimp only at hF hrun hO1 hOo hAr hcnt ⊢
 have hb0:=fval_bd s' l fl (inCap_small l _ hF0.len hF0.cap g.ok)
 have hb1:=fval_bd s' l rest (inCap_small l _ hF.len hF.cap g.ok)
 rw [← hF0.len] at hb0;rw [← hF.len] at hb1
 have hrm:∀ v x,v < n' → x ∈ insOf (plinks l) v → Ans Tryz.prog (roomP bb) [int x.k] [sng bb (.cells #[rv] 22 (0,0)),ρ1] (fun r=>r = int (rmP rest x.k)):=fun v x _ hx=>by
  have hm:x ∈ plinks l:=by unfold insOf at hx; exact (List.mem_filter.1 hx).1
  exact paths1_spec ρ1 bb x.k _ _ rv rest hO1 (by rw [← hF.len]; exact pl_k hm)
 refine AP ?_;refine Aad ?_;refine Aax ?_;refine BZ (path_spec γ gb n' s' t' (outsOf (plinks l)) (insOf (plinks l)) (roomP bb) (rmP rest) _ hGA hGok g.sn g.tn hrm) rfl rfl rdZ rfl rfl ?_;rintro _ ρp ⟨D,pv,hD,rfl,hP⟩;rw [opens_opn hpl] at hD;rw [nxO_nxt] at hP
 by_cases hd0:0 ≤ D.getD s' 0
 rotate_left
 ·rw [decide_eq_false hd0]
  refine Ac ?_;refine Ad4 ?_;refine Adu ?_
  refine DU (ρ:=ρo) takeZ (σ:=ρa) takeZ (fun δ k1 k2=>?_)
  refine AI (res2 rfl rfl rfl) rsubZ selZ ⟨δ,⟨ov,ps,0,rfl,⟨es,k1.slE hOo.at,hAr.sub k2⟩,.inr ⟨h0,rfl,rest,?_⟩⟩,rfl⟩
  have:=hrun [] rest (.done hD (by omega))
  simpa using this
 rw [decide_eq_true hd0]
 obtain ⟨hN1,hN2,hN3⟩:=pNext_ok g.ok g.sn g.ne hF hD hd0
 obtain ⟨k0,hk0⟩:=Int.eq_ofNat_of_zero_le hd0
 have hDn:=hD.lt (fun x hx=>hpl x hx.1) g.tn g.sn
 have hPl:(pP l rest D s').length = k0:=path_len hpl hD k0 s' g.sn hk0
 have hPm:∀ x ∈ pP l rest D s',x ∈ plinks l:=fun x hx=>((path_chn hpl hD k0 s' g.sn hk0).all x hx).1.1
 have hroom:pRoom l rest D s' ≤ 1099511627776:=(leastR_le _ _ _).1
 have hIn:IntsAt ρp pv (ksOf (pP l rest D s')):=ownInts (e:=3) (by rw [show (ksOf (pP l rest D s')).length = (pP l rest D s').length from by simp [ksOf]]; exact hP)
 have hlst:=least_spec γ ρp gb (roomP bb) pv (rmP rest) _ (pP l rest D s') hGA.r hIn (by omega) (fun x hx=>hrm x.t x (hpl x (hPm x hx)).2 (by unfold insOf; rw [List.mem_filter]; exact ⟨hPm x hx,by simp⟩))
 have hpv1:pv.oneCell' = true:=SlE.one hIn
 have hroom2:leastR (rmP rest) (pP l rest D s') ≤ 1099511627776:=hroom
 have hroom3:0 < leastR (rmP rest) (pP l rest D s'):=hN2
 obtain ⟨q2,c2,rfl,hr2⟩:=hIn.val Eng.encI_len
 have hkl:(ksOf (pP l rest D s')).length = (pP l rest D s').length:=by simp [ksOf]
 have hmu:=fval_bd s' l (pNext l rest D s') (inCap_small l _ hN1.len hN1.cap g.ok)
 rw [← hN1.len] at hmu;refine Ac ?_;refine Acc ?_;refine Abn ?_;refine A3 hlst rfl rfl rdZ rfl rfl ?_;rintro _ rfl;refine Aab ?_;refine Ab8 ?_
 refine BC [0,1,3,4,14,15,18,19,21,69,70] (X:=Nat × PH) (0,ρ1) (fun x=>x.1 ≤ (pP l rest D s').length ∧ OwnS 3 1 rv (subAll (pRoom l rest D s') rest ((pP l rest D s').take x.1)).length ((subAll (pRoom l rest D s') rest ((pP l rest D s').take x.1)).flatMap Eng.encI) x.2) (fun x=>[(71,int x.1)])
  (fun x=>[sng bb (.cells #[rv] 22 (0,0)),x.2,ρo,ρa,ρp])
  (fun x=>(pP l rest D s').length - x.1) pickZ ⟨by dsimp only; omega,by simpa [subAll] using hO1⟩ covZ selZ ?_
 rintro ⟨i,ρ2⟩ ⟨hi,hO2⟩
 dsimp only at hi hO2 ⊢
 have hal:(subAll (pRoom l rest D s') rest ((pP l rest D s').take i)).length = l.length:=by rw [subAll_len]; exact hF.len.symm
 by_cases hlt2:i < (pP l rest D s').length
 ·have hx:(ksOf (pP l rest D s'))[i]? = some ((pP l rest D s')[i].k:Int):=by simp [ksOf,hlt2]
  obtain ⟨b,o,rfl,g0⟩:=hr2.int hx
  have hxm:=hPm _ (List.getElem_mem hlt2)
  have hxk:=pl_k hxm
  obtain ⟨br,cap,rfl⟩:=OwnS.some_of hO2 (by omega)
  have hnum:=OwnS.num hO2 (i:=(pP l rest D s')[i].k) (by omega)
  have hic:=inCap_get l _ (pTake_cap g.ok g.sn hF hD hd0 i) (pP l rest D s')[i].k (l[(pP l rest D s')[i].k]'(by omega)) ((subAll (pRoom l rest D s') rest ((pP l rest D s').take i)).getD (pP l rest D s')[i].k 0) (List.getElem?_eq_getElem (by omega)) (by rw [List.getD_eq_getElem?_getD,List.getElem?_eq_getElem (by omega)]; rfl)
  have hcc:=hcap _ (List.getElem_mem (show (pP l rest D s')[i].k < l.length by omega))
  have hsn:=subAll_snoc (pRoom l rest D s') rest ((pP l rest D s').take i) (pP l rest D s')[i]
  rw [← take_snoc' hlt2] at hsn;unfold subP at hsn;refine Adh ?_;refine Aab ?_;refine AA ?_;refine Acb ?_;refine BT ?_;refine Acb ?_;refine CZ ?_;refine BT ?_
  refine CD (EZ Eng.encI_len (a:=(subAll (pRoom l rest D s') rest ((pP l rest D s').take i)).getD (pP l rest D s')[i].k 0) (pP l rest D s')[i].k 0 ((subAll (pRoom l rest D s') rest ((pP l rest D s').take i)).getD (pP l rest D s')[i].k 0 - pRoom l rest D s') hO2 rfl (by omega) (by omega) (by rw [List.getD_eq_getElem?_getD,List.getElem?_eq_getElem (by omega)]; rfl) rfl rfl rfl rfl takeZ) rfl rfl ?_
  rintro _ _ ⟨rfl,ρ3,hO3,rfl⟩;refine Ade ?_
  refine AZ (i + 1,ρ3) ⟨by dsimp only; omega,?_⟩ (by dsimp only; omega) covZ selZ
  dsimp only
  rw [hsn];rw [List.length_set] at hO3 ⊢;exact hO3
 ·rw [List.take_of_length_le (by omega)] at hO2
  have hesl:=hAr.1
  have hnp:=pNext_pos g.ok g.sn g.ne hF hD hd0
  refine Abt ?_;refine AA ?_;refine Acx ?_;refine BS ?_;refine BH ?_; rintro _ _ ⟨b,rfl,rfl⟩
  refine BI (B6 (by_:=32) (s:=2) (news:=[.slice q2 (ksOf (pP l rest D s')).length c2,int (pRoom l rest D s')]) rfl rfl rfl rfl rfl rfl rfl hOo takeZ (cells_own memZ) rfl (by (repeat (first | exact (fun v hv=>absurd hv List.not_mem_nil) | (refine List.forall_mem_cons.2 ⟨?_,?_⟩; (focus (first | exact rfl | assumption))))); first | done | fail) (by omega) (by simp only [maxLen]; omega) (by omega)) rfl rfl rfl ?_
  rintro q9 _ ⟨ρ4,hQ4,rfl⟩;refine Aab ?_;refine A4 ?_
  refine DU (ρ:=ρa) takeZ (σ:=ρp) takeZ (fun δ k1 k2=>?_)
  refine AZ ((pNext l rest D s',ps ++ [(pP l rest D s',pRoom l rest D s')]),((q9,es ++ [(.slice q2 (ksOf (pP l rest D s')).length c2,pRoom l rest D s')]),((ρ4,δ),ρ2))) ⟨hN1,?_,hO2,?_,(hAr.sub k1).snoc rfl (k2.slE hIn),?_⟩ (by dsimp only; omega) covZ selZ
  ·intro ps2 r hR
   have:=hrun _ r (.step hD hd0 hR)
   dsimp only
   rw [List.append_assoc];exact this
  ·dsimp only
   rw [List.length_append,List.flatMap_append];exact hQ4
  ·dsimp only
   rw [List.length_append,List.length_singleton];omega
end Go.Proofs.YtphehihohghfoaaGreat
/- The reference's list of arcs with what is left on each. No program in sight. No conditions. -/
namespace Go.Flow
end Go.Flow
/- Paths of the reference; paths compared. -/
namespace Go.Proofs.YtphehihohghfoaaGreat
open Go.Eng Go.Flow
set_option maxRecDepth 100000
set_option maxHeartbeats 4000000

end Go.Proofs.YtphehihohghfoaaGreat
/- A part of a flow's paths is a flow. No program in sight. No conditions. -/
namespace Go.Flow
def addP (m:Int) (part:List Int) (x:Lk):List Int:=part.set x.k (part.getD x.k 0 + m)
def addAll (m:Int) (part:List Int) (p:List Lk):List Int:=p.foldl (addP m) part
def addMany (qs:List (List Lk × Int)) (part:List Int):List Int:=qs.foldl (fun part q=>addAll q.2 part q.1) part
def quotaL:List (List Lk × Int) → Int → List (List Lk × Int)
  | [],_=>[]
  | p :: ps,v=>(p.1,min v p.2) :: quotaL ps (v - min v p.2)
def neededL:List (List Lk × Int) → Int → List (List Lk × Int)
  | [],_=>[]
  | p :: ps,v=>if v = 0 then [] else (p.1,min p.2 v) :: neededL ps (v - min p.2 v)
def restV:List (List Lk × Int) → Int → Int
  | [],v=>v
  | p :: ps,v=>restV ps (v - min v p.2)
theorem addP_len (m:Int) (part:List Int) (x:Lk):(addP m part x).length = part.length:=by simp [addP]
theorem addAll_len (m:Int):∀ (p:List Lk) (part:List Int),(addAll m part p).length = part.length
  | [],_=>rfl
  | x :: p,part=>by
    show (addAll m (addP m part x) p).length = _
    rw [addAll_len m p,addP_len]
theorem addMany_len:∀ (qs:List (List Lk × Int)) (part:List Int),(addMany qs part).length = part.length
  | [],_=>rfl
  | q :: qs,part=>by
    show (addMany qs (addAll q.2 part q.1)).length = _
    rw [addMany_len qs,addAll_len]
theorem addAll_snoc (m:Int) (part:List Int) (p:List Lk) (x:Lk):addAll m part (p ++ [x]) = addP m (addAll m part p) x:=by simp [addAll]
theorem addMany_snoc (part:List Int) (qs:List (List Lk × Int)) (q:List Lk × Int):addMany (qs ++ [q]) part = addAll q.2 (addMany qs part) q.1:=by simp [addMany]
theorem quotaL_len:∀ (ps:List (List Lk × Int)) (v:Int),(quotaL ps v).length = ps.length
  | [],_=>rfl
  | p :: ps,v=>by simp [quotaL,quotaL_len ps]
theorem quotaL_get:∀ (ps:List (List Lk × Int)) (v:Int) (j:Nat),(quotaL ps v)[j]? = (ps[j]?).map (fun p=>(p.1,min (restV (ps.take j) v) p.2))
  | [],_,_=>by simp [quotaL]
  | p :: ps,v,0=>by simp [quotaL,restV]
  | p :: ps,v,j + 1=>by
    simp only [quotaL,List.getElem?_cons_succ,List.take_succ_cons,restV];exact quotaL_get ps _ j
theorem restV_snoc:∀ (ps:List (List Lk × Int)) (v:Int) (p:List Lk × Int),restV (ps ++ [p]) v = restV ps v - min (restV ps v) p.2
  | [],v,p=>rfl
  | q :: ps,v,p=>by simp only [List.cons_append,restV]; exact restV_snoc ps _ p
theorem restV_bd:∀ (ps:List (List Lk × Int)) (v:Int),0 ≤ v → (∀ p ∈ ps,0 ≤ p.2) → 0 ≤ restV ps v ∧ restV ps v ≤ v
  | [],v,h,_=>⟨h,Int.le_refl _⟩
  | p :: ps,v,h,hp=>by
    have h1:=hp p (by simp)
    have h2:=restV_bd ps (v - min v p.2) (by omega) (fun q hq=>hp q (by simp [hq]))
    simp only [restV];omega
theorem addP_zero (part:List Int) (x:Lk):addP 0 part x = part:=by
  unfold addP;rw [Int.add_zero]
  by_cases h:x.k < part.length
  · apply List.ext_getElem?
    intro i
    rw [List.getElem?_set]
    split
    · rename_i e
      subst e
      simp [List.getD_eq_getElem?_getD,h]
    · rfl
  · rw [List.set_eq_of_length_le (by omega)]
theorem addAll_zero:∀ (p:List Lk) (part:List Int),addAll 0 part p = part
  | [],_=>rfl
  | x :: p,part=>by
    show addAll 0 (addP 0 part x) p = _
    rw [addP_zero,addAll_zero p]
theorem quota_zero:∀ (ps:List (List Lk × Int)),(∀ p ∈ ps,0 ≤ p.2) → ∀ q ∈ quotaL ps 0,q.2 = 0
  | [],_,q,hq=>by simp [quotaL] at hq
  | p :: ps,hp,q,hq=>by
    have h1:=hp p (by simp)
    simp only [quotaL,List.mem_cons] at hq
    rcases hq with rfl | hq
    · dsimp only; omega
    · rw [show (0:Int) - min 0 p.2 = 0 by omega] at hq
      exact quota_zero ps (fun q hq=>hp q (by simp [hq])) q hq
theorem addMany_zero:∀ (qs:List (List Lk × Int)) (part:List Int),(∀ q ∈ qs,q.2 = 0) → addMany qs part = part
  | [],_,_=>rfl
  | q :: qs,part,h=>by
    show addMany qs (addAll q.2 part q.1) = _
    rw [h q (by simp),addAll_zero,addMany_zero qs part (fun r hr=>h r (by simp [hr]))]
theorem needed_take:∀ (ps:List (List Lk × Int)) (v:Int),neededL ps v = (quotaL ps v).take (neededL ps v).length
  | [],_=>rfl
  | p :: ps,v=>by
    unfold neededL
    split
    · rfl
    · rw [List.length_cons,quotaL,List.take_succ_cons,Int.min_comm,← needed_take ps]
theorem needed_sum:∀ (ps:List (List Lk × Int)) (v:Int) (part:List Int),(∀ p ∈ ps,0 ≤ p.2) → addMany (neededL ps v) part = addMany (quotaL ps v) part
  | [],_,_,_=>rfl
  | p :: ps,v,part,h=>by
    unfold neededL
    split
    · rename_i e
      subst e;rw [addMany_zero _ _ (quota_zero _ h)]
      rfl
    · rw [quotaL,Int.min_comm]
      exact needed_sum ps _ _ (fun q hq=>h q (by simp [hq]))
theorem needed_len (ps:List (List Lk × Int)) (v:Int):(neededL ps v).length ≤ ps.length:=by
  have h:=congrArg List.length (needed_take ps v)
  rw [List.length_take,quotaL_len] at h;omega
theorem RunP.pos {n s t:Nat} {l:List Arc} (hok:∀ a ∈ l,okArc n a = true) (hs:s < n) (hst:s ≠ t) {fl r:List Int} {ps:List (List Lk × Int)} (h:RunP n l s t fl ps r):Flw n l s t fl → ∀ p ∈ ps,0 < p.2:=by
  induction h with
  | done=>intro _ p hp; simp at hp
  | step hD h0 _ ih =>
    intro hf p hp
    have:=pNext_ok hok hs hst hf hD h0
    simp only [List.mem_cons] at hp
    rcases hp with rfl | hp
    · exact this.2.1
    · exact ih this.1 p hp
theorem add_diff (m:Int) (F:List Int):∀ (p:List Lk) (fl:List Int),F.length = fl.length → (∀ x ∈ p,x.k < fl.length) → addAll m (diffL F fl) p = diffL F (subAll m fl p)
  | [],_,_,_=>rfl
  | x :: p,fl,hl,hp=>by
    have hx:=hp x (by simp)
    show addAll m (addP m (diffL F fl) x) p = diffL F (subAll m (subP m fl x) p)
    have e:addP m (diffL F fl) x = diffL F (subP m fl x):=by
      unfold addP subP
      exact diffL_set m (by omega) hx
    rw [e]
    exact add_diff m F p (subP m fl x) (by rw [subP_len]; exact hl) (fun y hy=>by rw [subP_len]; exact hp y (by simp [hy]))
section
variable {n s t:Nat} {l:List Arc}
theorem path_part (hok:∀ a ∈ l,okArc n a = true) (hs:s < n) {fl D:List Int} (hf:Flw n l s t fl) (hD:IsDist n t (pE l fl) D) (h0:0 ≤ D.getD s 0) {m:Int} (hm:0 ≤ m) (hm2:m ≤ pRoom l fl D s) (i:Nat) :
    inCap l (subAll m fl ((pP l fl D s).take i)) = true ∧ (∀ x ∈ pP l fl D s,x.k < l.length):=by
  obtain ⟨k,hk⟩:=Int.eq_ofNat_of_zero_le h0
  have hch:=path_chn (pl_lt hok) hD k s hs hk
  obtain ⟨w,hw⟩:=hch.take i
  refine ⟨(subAll_ok hok hm (E:=fun x=>pE l fl x ∧ D.getD x.t 0 = D.getD x.f 0 - 1 ∧ D.getD x.f 0 ≤ k) (fun x hx=>hx.1.1) hw fl hf.len hf.cap ((pP_arcs hok hs hD h0).sublist (List.take_sublist _ _)) (fun x hx=>Int.le_trans hm2 ((leastR_le _ _ _).2 x (List.mem_of_mem_take hx)))).1,fun x hx=>pl_k (hch.all x hx).1.1⟩
theorem path_flw (hok:∀ a ∈ l,okArc n a = true) (hs:s < n) (hst:s ≠ t) {fl D:List Int} (hf:Flw n l s t fl) (hD:IsDist n t (pE l fl) D) (h0:0 ≤ D.getD s 0) {m:Int} (hm:0 ≤ m) (hm2:m ≤ pRoom l fl D s) :
    Flw n l s t (subAll m fl (pP l fl D s)) ∧ fval s l (subAll m fl (pP l fl D s)) = fval s l fl - m:=by
  obtain ⟨k,hk⟩:=Int.eq_ofNat_of_zero_le h0
  have hch:=path_chn (pl_lt hok) hD k s hs hk
  obtain ⟨r1,r2⟩:=subAll_ok hok hm (E:=fun x=>pE l fl x ∧ D.getD x.t 0 = D.getD x.f 0 - 1 ∧ D.getD x.f 0 ≤ k) (fun x hx=>hx.1.1) hch fl hf.len hf.cap (pP_arcs hok hs hD h0) (fun x hx=>Int.le_trans hm2 ((leastR_le _ _ _).2 x hx))
  refine ⟨⟨by rw [subAll_len]; exact hf.len,r1,fun v hv h1 h2=>?_⟩,?_⟩
  · rw [r2 v,if_neg (Ne.symm h1),if_neg (Ne.symm h2),hf.bal v hv h1 h2]; rfl
  · rw [r2 s,if_pos rfl,if_neg (Ne.symm hst)]; omega
theorem quota_mid (hok:∀ a ∈ l,okArc n a = true) (hs:s < n) (hst:s ≠ t) {fl r:List Int} {ps:List (List Lk × Int)} (h:RunP n l s t fl ps r):Flw n l s t fl →
    ∀ (F:List Int),F.length = fl.length → (∀ k:Nat,fl.getD k 0 ≤ F.getD k 0) → ∀ (v:Int),0 ≤ v → ∀ (j i:Nat) (q:List Lk × Int),(quotaL ps v)[j]? = some q →
    ∃ fl',addAll q.2 (addMany ((quotaL ps v).take j) (diffL F fl)) (q.1.take i) = diffL F fl' ∧ fl'.length = fl.length ∧ inCap l fl' = true ∧ (∀ k:Nat,fl'.getD k 0 ≤ F.getD k 0):=by
  induction h with
  | done=>intro _ F _ _ v _ j i q hq; simp [quotaL] at hq
  | @step fl D r ps hD h0 hr ih =>
    intro hf F hl hle v hv j i q hq
    have hpos:=(pNext_ok hok hs hst hf hD h0).2.1
    have hnx:=(pNext_ok hok hs hst hf hD h0).1
    obtain ⟨p1,p2⟩:=path_part hok hs hf hD h0 (m:=min v (pRoom l fl D s)) (by omega) (by omega) i
    have hkl:∀ x ∈ pP l fl D s,x.k < fl.length:=fun x hx=>by rw [← hf.len]; exact p2 x hx
    cases j with
    | zero =>
      simp only [quotaL,List.getElem?_cons_zero,Option.some.injEq] at hq;subst hq
      refine ⟨subAll (min v (pRoom l fl D s)) fl ((pP l fl D s).take i),?_,subAll_len _ _ _,p1,fun k=>Int.le_trans (subAll_le (by omega) _ _ k) (hle k)⟩
      exact add_diff _ F _ fl hl (fun x hx=>hkl x (List.mem_of_mem_take hx))
    | succ j =>
      simp only [quotaL,List.getElem?_cons_succ] at hq
      have e:addMany ((quotaL ((pP l fl D s,pRoom l fl D s) :: ps) v).take (j + 1)) (diffL F fl) = addMany ((quotaL ps (v - min v (pRoom l fl D s))).take j) (diffL F (subAll (min v (pRoom l fl D s)) fl (pP l fl D s))):=by
        rw [quotaL,List.take_succ_cons]
        show addMany _ (addAll _ (diffL F fl) _) = _
        rw [add_diff _ F _ fl hl hkl]
      rw [e]
      by_cases hc:pRoom l fl D s ≤ v
      · rw [show min v (pRoom l fl D s) = pRoom l fl D s by omega] at hq ⊢
        obtain ⟨fl',a,b,c⟩:=ih hnx F (by rw [hl]; exact (subAll_len _ _ _).symm) (fun k=>Int.le_trans (subAll_le (by omega) _ _ k) (hle k)) (v - pRoom l fl D s) (by omega) j i q hq
        exact ⟨fl',a,by rw [b]; exact subAll_len _ _ _,c⟩
      · rw [show min v (pRoom l fl D s) = v by omega,Int.sub_self] at hq ⊢
        have hz:=quota_zero ps (fun p hp=>Int.le_of_lt (hr.pos hok hs hst hnx p hp))
        have hq0:=hz q (List.mem_of_getElem? hq)
        rw [addMany_zero _ _ (fun x hx=>hz x (List.mem_of_mem_take hx)),hq0,addAll_zero]
        obtain ⟨k1,k2⟩:=path_flw hok hs hst hf hD h0 hv (by omega)
        exact ⟨_,rfl,subAll_len _ _ _,k1.cap,fun k=>Int.le_trans (subAll_le hv _ _ k) (hle k)⟩
theorem quota_flow (hok:∀ a ∈ l,okArc n a = true) (hs:s < n) (ht:t < n) (hst:s ≠ t) {fl r:List Int} {ps:List (List Lk × Int)} (h:RunP n l s t fl ps r):Flw n l s t fl →
    ∀ (F:List Int),F.length = fl.length → (∀ k:Nat,fl.getD k 0 ≤ F.getD k 0) → ∀ (v:Int),0 ≤ v → v ≤ fval s l fl →
    ∃ fl',addMany (quotaL ps v) (diffL F fl) = diffL F fl' ∧ Flw n l s t fl' ∧ (∀ k:Nat,fl'.getD k 0 ≤ F.getD k 0) ∧ fval s l fl' = fval s l fl - v:=by
  induction h with
  | done hD hn =>
    intro hf F hl hle v hv hv2
    have:=rest_le0 hok hs ht hf hD hn
    exact ⟨_,rfl,hf,hle,by omega⟩
  | @step fl D r ps hD h0 hr ih =>
    intro hf F hl hle v hv hv2
    obtain ⟨hnx,hpos,hval⟩:=pNext_ok hok hs hst hf hD h0
    obtain ⟨p1,p2⟩:=path_part hok hs hf hD h0 (m:=min v (pRoom l fl D s)) (by omega) (by omega) 0
    have hkl:∀ x ∈ pP l fl D s,x.k < fl.length:=fun x hx=>by rw [← hf.len]; exact p2 x hx
    have e:addMany (quotaL ((pP l fl D s,pRoom l fl D s) :: ps) v) (diffL F fl) = addMany (quotaL ps (v - min v (pRoom l fl D s))) (diffL F (subAll (min v (pRoom l fl D s)) fl (pP l fl D s))):=by
      rw [quotaL]
      show addMany _ (addAll _ (diffL F fl) _) = _
      rw [add_diff _ F _ fl hl hkl]
    rw [e]
    by_cases hc:pRoom l fl D s ≤ v
    · rw [show min v (pRoom l fl D s) = pRoom l fl D s by omega]
      obtain ⟨fl',a,b,c,d⟩:=ih hnx F (by rw [hl]; exact (subAll_len _ _ _).symm) (fun k=>Int.le_trans (subAll_le (by omega) _ _ k) (hle k)) (v - pRoom l fl D s) (by omega) (by omega)
      exact ⟨fl',a,b,c,by omega⟩
    · rw [show min v (pRoom l fl D s) = v by omega,Int.sub_self]
      have hz:=quota_zero ps (fun p hp=>Int.le_of_lt (hr.pos hok hs hst hnx p hp))
      rw [addMany_zero _ _ hz]
      obtain ⟨k1,k2⟩:=path_flw hok hs hst hf hD h0 hv (by omega)
      exact ⟨_,rfl,k1,fun k=>Int.le_trans (subAll_le hv _ _ k) (hle k),k2⟩
theorem inCap_diff:∀ (l:List Arc) (F fl:List Int),F.length = fl.length → inCap l F = true → inCap l fl = true → (∀ k:Nat,fl.getD k 0 ≤ F.getD k 0) → inCap l (diffL F fl) = true
  | [],_,_,_,_,_,_=>by simp [inCap]
  | _ :: _,[],[],_,_,_,_=>by simp [inCap,diffL]
  | a :: l,x :: F,y :: fl,hl,h1,h2,h3=>by
    simp only [inCap,Bool.and_eq_true,decide_eq_true_eq] at h1 h2
    have k0:=h3 0
    simp only [List.getD_cons_zero] at k0
    have ih:=inCap_diff l F fl (by simpa using hl) h1.2 h2.2 (fun k=>by simpa using h3 (k + 1))
    simp only [diffL,List.zipWith_cons_cons,inCap,Bool.and_eq_true,decide_eq_true_eq] at ih ⊢
    exact ⟨by omega,ih⟩
theorem part_flow (hok:∀ a ∈ l,okArc n a = true) (hs:s < n) (ht:t < n) (hst:s ≠ t) {F r:List Int} {ps:List (List Lk × Int)} (h:RunP n l s t F ps r) (hF:Flw n l s t F) {v:Int} (hv:0 ≤ v) (hv2:v ≤ fval s l F) :
    Flw n l s t (addMany (quotaL ps v) (List.replicate l.length 0)) ∧ fval s l (addMany (quotaL ps v) (List.replicate l.length 0)) = v:=by
  obtain ⟨fl',a,b,c,d⟩:=quota_flow hok hs ht hst h hF F rfl (fun k=>Int.le_refl _) v hv hv2
  have hl:F.length = fl'.length:=by rw [← hF.len,b.len]
  rw [diffL_self,← hF.len] at a;rw [a]
  refine ⟨⟨by rw [diffL_len hl]; exact hF.len,inCap_diff l F fl' hl hF.cap b.cap c,fun u h1 h2 h3=>?_⟩,?_⟩
  · rw [fval_diff _ _ _ _ hl,hF.bal u h1 h2 h3,b.bal u h1 h2 h3]; rfl
  · rw [fval_diff _ _ _ _ hl,d]; omega
theorem part_mid (hok:∀ a ∈ l,okArc n a = true) (hs:s < n) (hst:s ≠ t) {F r:List Int} {ps:List (List Lk × Int)} (h:RunP n l s t F ps r) (hF:Flw n l s t F) {v:Int} (hv:0 ≤ v) {j i:Nat} {q:List Lk × Int} (hq:(quotaL ps v)[j]? = some q) :
    inCap l (addAll q.2 (addMany ((quotaL ps v).take j) (List.replicate l.length 0)) (q.1.take i)) = true ∧ (addAll q.2 (addMany ((quotaL ps v).take j) (List.replicate l.length 0)) (q.1.take i)).length = l.length:=by
  obtain ⟨fl',a,b,c,d⟩:=quota_mid hok hs hst h hF F rfl (fun k=>Int.le_refl _) v hv j i q hq
  rw [diffL_self,← hF.len] at a;rw [a]
  exact ⟨inCap_diff l F fl' b.symm hF.cap c d,by rw [diffL_len b.symm]; exact hF.len.symm⟩
theorem run_arcs (hok:∀ a ∈ l,okArc n a = true) (hs:s < n) (hst:s ≠ t) {F r:List Int} {ps:List (List Lk × Int)} (h:RunP n l s t F ps r):Flw n l s t F → ∀ p ∈ ps,∀ x ∈ p.1,x.k < l.length:=by
  induction h with
  | done=>intro _ p hp; simp at hp
  | step hD h0 _ ih =>
    intro hf p hp
    simp only [List.mem_cons] at hp
    rcases hp with rfl | hp
    · exact (path_part hok hs hf hD h0 (m:=0) (Int.le_refl _) (Int.le_of_lt (pNext_ok hok hs hst hf hD h0).2.1) 0).2
    · exact ih (pNext_ok hok hs hst hf hD h0).1 p hp
end
end Go.Flow
/- A range over a function whose iterator keeps numbers of its own. No conditions. -/
namespace Go.Eng
variable {C : Cx} {D : List Deferred} {R H T : List PH} {L : Env} {K : List It}
def IterW (P : Program) (gv : Value) (R1 HI : List PH) (xs : List (List Value)) : Prop :=
  ∀ (y : Value) (S : Type) (Own : S → List PH) (Inv : Nat → S → Prop) (Stop : S → Prop) (Ry : List PH),
    (∀ i σ vs, xs[i]? = some vs → Inv i σ → Spec P y vs Ry (Own σ) (fun v H' => ∃ σ', H' = Own σ' ∧ ((v = .bool true ∧ Inv (i + 1) σ') ∨ (v = .bool false ∧ Stop σ')))) →
    (∃ l, y = yv l) → ∀ σ, Inv 0 σ → Spec P gv [y] (R1 ++ Ry) (Own σ ++ HI) (fun _ H' => ∃ σ', H' = Own σ' ∧ (Inv xs.length σ' ∨ Stop σ'))
theorem FR {P : Program} {Q : Exit → Act → World → Prop} {N : Bs} {M : Nat} {g : Operand} {gf : FuncId} {cap : List Value} {ps : List Nat} {assign body : Code} {X : Type} {R1 HI Hr : List PH} {xs : List (List Value)} {fn : Func} {gc : Code}
    (hg : evalE L g = some (.func (.func gf) #[] cap.toArray)) (hgf : P.funcs[gf]? = some fn) (hgb : fn.body = some gc) (hname : (fn.name == "runtime.NumGoroutine") = false)
    (hit : IterW P (.func (.func gf) #[] cap.toArray) R1 HI xs) (hR1 : ∀ ρ ∈ R1, ρ ∈ R)
    (I : Nat → X → Prop) (Hx : X → List PH) (J : Code → X → Prop) (x0 : X) (hx0 : Hx x0 = T) (hT : Takes H (T ++ HI) Hr) (h0 : I 0 x0)
    (hround : ∀ l (r : Loop) i x vs, xs[i]? = some vs → I i x → r.params = ps.toArray → r.assign = assign → r.body = body → r.state = .ready → r.pending = none → Frm M L ⟨r.tmps, []⟩ →
      Spec P (yv l) vs R (sng l (.loop r) :: Hx x) (fun v H' => ∃ x', (v = .bool true ∧ I (i + 1) x' ∧ H' = sng l (.loop r) :: Hx x') ∨ (v = .bool false ∧ ∃ c, J c x' ∧ H' = sng l (.loop { r with state := .done, pending := some c }) :: Hx x')))
    (hdone : ∀ b x, I xs.length x → JK ⟨none, P, Q, N, M⟩ (mk b :: D) R (sng b defO :: (Hx x ++ Hr)) L K)
    (hjump : ∀ b c x, J c x → JK ⟨none, P, Q, N, M⟩ (mk b :: D) R (sng b defO :: (Hx x ++ Hr)) L (.code c :: K)) :
    JK ⟨none, P, Q, N, M⟩ D R H L (.code (.rangeFunc g ps.toArray assign body) :: K) := by
  subst hx0
  refine ⟨fun a w hf hd hs => wpIn_rangeFunc (fun fnn _ => ?_)⟩
  let r : Loop := { state := .ready, pending := none, fn := fnn, tmps := a.tmps, params := ps.toArray, assign, body, defers := w.heap.size }
  let w1 : World := (w.alloc defO).alloc (.loop r)
  have hs2 := hT.sat hs
  have hs3 := (hs2.alloc defO).alloc (.loop r)
  have hl : (w.alloc defO).heap.size = w.heap.size + 1 := by simp
  rw [hl] at hs3
  refine ⟨w.heap.size + 1, [mk w.heap.size], w1, ⟨.fn (.func gf) cap.toArray, #[yv (w.heap.size + 1)]⟩, w1, gf, ([yv (w.heap.size + 1)] ++ cap).toArray, w1, ?_, ?_, fun _ _ => trivial, ?_, fun h => by simp [Fence.wide] at h, ?_⟩
  · simp [Instr.enterLoop, w1, r]
  · have hgv' : a.eval g = .func (.func gf) #[] cap.toArray := hf.on g _ hg
    have hc : a.eval (.const (yv (w.heap.size + 1))) = yv (w.heap.size + 1) := rfl
    simp [resolve, Deferred.ofValue, hgv', hc]
  · have hname' : ¬ fn.name = "runtime.NumGoroutine" := by simpa using hname
    simp [invoke, callFunc, program, Sem.run, bind, Sem.bind, pure, hgf, hgb, hname']
  · let Own : X × Option Code → List PH := fun σ => match σ.2 with
      | none => sng (w.heap.size + 1) (.loop r) :: Hx σ.1
      | some c => sng (w.heap.size + 1) (.loop { r with state := .done, pending := some c }) :: Hx σ.1
    have hspec := hit (yv (w.heap.size + 1)) (X × Option Code) Own (fun i σ => σ.2 = none ∧ I i σ.1) (fun σ => ∃ c, σ.2 = some c ∧ J c σ.1) R
      (fun i σ vs hvs ⟨h1, h2⟩ => by
        obtain ⟨x, o⟩ := σ
        simp only at h1 h2;subst h1;refine (hround (w.heap.size + 1) r i x vs hvs h2 rfl rfl rfl rfl rfl ⟨hf.size, hf.get⟩).mono ?_;rintro v H' ⟨x', ⟨e1, e2, e3⟩ | ⟨e1, c, e2, e3⟩⟩
        · exact ⟨(x', none), e3, .inl ⟨e1, rfl, e2⟩⟩
        · exact ⟨(x', some c), e3, .inr ⟨e1, c, rfl, e2⟩⟩)
      ⟨_, rfl⟩ (x0, none) ⟨rfl, h0⟩
    have hs4 : Sat N R ((Own (x0, none) ++ HI) ++ (sng w.heap.size defO :: Hr)) w1 := hs3.perm (by
      simp only [Own, List.cons_append]
      exact (List.perm_middle.symm).cons _)
    have hs5 : Sat N (R1 ++ R) (Own (x0, none) ++ HI) w1 := (hs4.rsub (R' := R1 ++ R) (fun ρ hρ => by
      rcases List.mem_append.1 hρ with h | h
      · exact hR1 ρ h
      · exact h)).left
    have hc := hspec N w1 hs5
    unfold CallsV at hc
    have hname' : ¬ fn.name = "runtime.NumGoroutine" := by simpa using hname
    have hrun : ((do let d ← Deferred.ofValue (.func (.func gf) #[] cap.toArray) [yv (w.heap.size + 1)].toArray; invoke d.target d.args : Sem Next).run P w1) = .ok (.enter gf ([yv (w.heap.size + 1)] ++ cap).toArray) w1 := by
      simp [Deferred.ofValue, invoke, callFunc, program, Sem.run, bind, Sem.bind, pure, hgf, hgb, hname']
    rw [hrun] at hc;simp only at hc
    refine CallsIn.mono (show CallsIn (wideR none) 0 P gf _ w1 _ from hc) ?_
    rintro e w3 ⟨v, rfl, H', ⟨⟨x, o⟩, rfl, hfin⟩, hu⟩
    have hs6 := hs4.upd hu
    have hfin' : ∃ r', r'.state ≠ .busy ∧ Own (x, o) = sng (w.heap.size + 1) (.loop r') :: Hx x ∧ ((r'.pending = none ∧ I xs.length x) ∨ ∃ c, r'.pending = some c ∧ J c x) := by
      rcases hfin with ⟨h1, h2⟩ | ⟨c, h1, h2⟩
      · simp only at h1 h2; subst h1; exact ⟨r, by simp [r], rfl, .inl ⟨rfl, h2⟩⟩
      · simp only at h1 h2; subst h1; exact ⟨{ r with state := .done, pending := some c }, by simp, rfl, .inr ⟨c, rfl, h2⟩⟩
    obtain ⟨r', hb, ho, hfin'⟩ := hfin'
    rw [ho] at hs6;simp only [List.cons_append] at hs6
    have hown := hs6.own Take.here
    have hend : (Instr.endLoop (w.heap.size + 1)).run P w3 = .ok r'.pending { w3 with heap := w3.heap.setIfInBounds (w.heap.size + 1) (.loop { r' with state := .exhausted }) } := by
      simp [Instr.endLoop, run_getLoop hown, run_setLoop hown, hb]
    refine ⟨r'.pending, _, hend, ?_⟩
    have hs7 : Sat N R (sng w.heap.size defO :: (Hx x ++ Hr)) { w3 with heap := w3.heap.setIfInBounds (w.heap.size + 1) (.loop { r' with state := .exhausted }) } :=
      ((hs6.turnAny (o' := .loop { r' with state := .exhausted }) Take.here).tail).perm List.perm_middle
    have hfr : Frm M L { a with defers := [mk w.heap.size] ++ a.defers } := ⟨hf.size, hf.get⟩
    have hdf : ({ a with defers := [mk w.heap.size] ++ a.defers } : Act).defers = mk w.heap.size :: D := by simp [hd]
    rcases hfin' with ⟨hp, hI⟩ | ⟨c, hp, hJ⟩
    · rw [hp] at hs7 ⊢
      exact (hdone w.heap.size x hI).run _ _ hfr hdf hs7
    · rw [hp] at hs7 ⊢
      exact (hjump w.heap.size c x hJ).run _ _ hfr hdf hs7

theorem yield_specE {P : Program} {l M : Nat} {r : Loop} {ps : List Nat} {vs : List Value} {L' : Env} {post : Value → List PH → Prop} {A B : Code} (ha : r.assign = A) (hb : r.body = B) (hf : Frm M L ⟨r.tmps, []⟩) (hps : r.params = ps.toArray) (hpl : ∀ p ∈ ps, p < M) (hL : PutI ps vs L L')
    (h : ∀ N β, JK ⟨some l, P, fun _ _ _ => False, N, M⟩ [] (β :: R) (sng l (.loop r) :: H) L' [.code A, .till (wpK ⟨some l, P, RQ P l N (β :: R) post, N, M⟩ [.sem (Instr.beginRound l), .code B] .normal)]) :
    Spec P (yv l) vs R (sng l (.loop r) :: H) post := by
  subst ha hb;exact yield_spec hf hps hpl hL h
end Go.Eng
namespace Go.Flow
theorem needed_get : ∀ (ps : List (List Lk × Int)) (v : Int) (k : Nat), (∀ j, j < k → restV (ps.take j) v ≠ 0) → ∀ p, ps[k]? = some p → restV (ps.take k) v ≠ 0 → (neededL ps v)[k]? = some (p.1, min p.2 (restV (ps.take k) v))
  | [], _, _, _, p, hp, _ => by simp at hp
  | q :: ps, v, 0, _, p, hp, h => by
    simp only [List.getElem?_cons_zero, Option.some.injEq] at hp;subst hp;simp only [List.take_zero, restV] at h ⊢;unfold neededL;rw [if_neg h]
    rfl
  | q :: ps, v, k + 1, hj, p, hp, h => by
    have h0 := hj 0 (by omega)
    simp only [List.take_zero, restV] at h0;simp only [List.getElem?_cons_succ] at hp;simp only [List.take_succ_cons, restV] at h ⊢;unfold neededL;rw [if_neg h0, List.getElem?_cons_succ, Int.min_comm q.2 v]
    exact needed_get ps _ k (fun j hk => by
      have := hj (j + 1) (by omega)
      simpa only [List.take_succ_cons, restV] using this) p hp h
theorem needed_stop : ∀ (ps : List (List Lk × Int)) (v : Int) (k : Nat), (∀ j, j < k → restV (ps.take j) v ≠ 0) → k ≤ ps.length → (k = ps.length ∨ restV (ps.take k) v = 0) → (neededL ps v).length = k
  | [], _, k, _, hk, _ => by simp at hk; subst hk; rfl
  | q :: ps, v, 0, _, _, h => by
    rcases h with h | h
    · simp at h
    · simp only [List.take_zero, restV] at h
      unfold neededL;rw [if_pos h]
      rfl
  | q :: ps, v, k + 1, hj, hk, h => by
    have h0 := hj 0 (by omega)
    simp only [List.take_zero, restV] at h0;unfold neededL
    rw [if_neg h0, List.length_cons, Int.min_comm q.2 v, needed_stop ps _ k (fun j hk => by
      have := hj (j + 1) (by omega)
      simpa only [List.take_succ_cons, restV] using this) (by simpa using hk) (by simpa [List.take_succ_cons, restV] using h)]
end Go.Flow
/- The least cut of the network. No program in sight. No conditions. -/
namespace Go.Step
open Go.Flow (MaxOK CutOK maxErr okEnds_iff run_cut RunR capacitySpec sideOf bget mem_sideOf sideOf_chk sideOf_len fval)
variable {qs:List Int} {cs:List Ct} {bs:List Bk} {hs:List Hd} {d:Dm}
def CutN (qs:List Int) (cs:List Ct) (bs:List Bk) (hs:List Hd) (d:Dm) (side:List Int) (c e:Int):Prop:=CutOK (vsN qs d) (arcsG qs cs bs hs d) (vtx d d.s d.r) (vtx d d.d d.e) side c e
theorem cut_facts (h:VOk qs cs bs hs d) (hv:validT qs cs bs hs d = true) {F side:List Int} {m e c e':Int} (hm:MaxN qs cs bs hs d F m e) (hc:CutN qs cs bs hs d side c e') :
    e' = 0 ∧ c = m ∧ sidesE qs cs bs hs d side = 0 ∧ vtx d d.s d.r ∈ side ∧ vtx d d.d d.e ∉ side ∧ side.length ≤ 1616:=by
  have hends:=okEnds_iff.1 h.ends
  have hvs:=h.vs
  have hchk:=h.chk
  obtain ⟨N,hN⟩:∃ N:Nat,vsN qs d = N:=⟨(vsN qs d).toNat,by omega⟩
  obtain ⟨S,hS⟩:∃ N:Nat,vtx d d.s d.r = N:=⟨(vtx d d.s d.r).toNat,by omega⟩
  obtain ⟨T,hT⟩:∃ N:Nat,vtx d d.d d.e = N:=⟨(vtx d d.d d.e).toNat,by omega⟩
  have hok:=h.ok
  unfold MaxN at hm;unfold CutN at hc
  have he:=max_err h
  rw [hN] at hok hchk hvs;rw [hN,hS,hT] at hm hends he hc
  rcases hm with ⟨a1,_⟩ | ⟨_,a2,a3,a4⟩
  · exact absurd he a1
  rcases hc with ⟨b1,_⟩ | ⟨_,b2,F',B,b3,b4,b5,b6⟩
  · exact absurd he b1
  simp only [Int.toNat_natCast] at a3 b3 b4 b5
  obtain ⟨f1,f2,f3,f4⟩:=run_cut hok (by omega) (by omega) (by omega) b3 b4
  have:=b3.uniq hok a3
  subst this
  have hl:=sideOf_len B N
  refine ⟨b2,by rw [b6,← f4,a4],?_,?_,?_,by rw [b5]; omega⟩
  · unfold sidesE
    rw [if_pos hv,hN];unfold capacitySpec
    rw [if_neg (fun h=>h hchk),if_neg (fun h=>h (by rw [b5]; exact sideOf_chk B N))]
  · rw [hS,b5,mem_sideOf]
    exact ⟨S,rfl,by omega,f2⟩
  · rw [hT,b5,mem_sideOf]
    rintro ⟨v,e1,_,e3⟩
    have:v = T:=by omega
    subst this;rw [f3] at e3
    simp at e3
end Go.Step
/- What a node gets and sends by the shipments of a flow. No program in sight. No conditions. -/
namespace Go.Step
open Go.Flow (Flw fval okArc okEnds_iff)
variable {qs:List Int} {cs:List Ct} {bs:List Bk} {hs:List Hd} {d:Dm}
theorem shipsE_flow (h:VOk qs cs bs hs d) (hv:validT qs cs bs hs d = true) {fl:List Int} {N S T:Nat} (hN:vsN qs d = N) (hS:vtx d d.s d.r = S) (hT:vtx d d.d d.e = T) (hf:Flw N (arcsG qs cs bs hs d) S T fl):shipsE qs cs bs hs d fl = 0:=by
  unfold shipsE;rw [if_pos hv,hN,hS,hT]
  have h1:=h.chk
  have h2:=h.ends
  rw [hN] at h1 h2;rw [hS,hT] at h2;unfold Go.Flow.valueSpec
  rw [if_neg (fun h=>h h1),if_neg (by rw [h2]; simp),if_neg (fun h=>h hf.len.symm),if_neg (by rw [hf.cap]; simp),if_neg]
  have hb:Go.Flow.balanced (N:Int).toNat (arcsG qs cs bs hs d) fl S T = true:=by
    unfold Go.Flow.balanced;rw [List.all_eq_true]
    intro v hv
    rw [decide_eq_true_eq]
    have hv':v < N:=by simpa using hv
    by_cases c1:v = S
    · exact .inl (by omega)
    · by_cases c2:v = T
      · exact .inr (.inl (by omega))
      · exact .inr (.inr (hf.bal v hv' c1 c2))
  rw [hb]
  simp
end Go.Step
/- What the planner answers. No program in sight. No conditions. -/
namespace Go.Step
open Go.Flow (MaxOK PathsOK Flw fval addMany quotaL RunP okEnds_iff)
abbrev PathL:=List (List Go.Flow.Lk × Int)
def partF (qs:List Int) (cs:List Ct) (bs:List Bk) (hs:List Hd) (d:Dm) (ps:PathL):List Int:=addMany (quotaL ps d.v) (List.replicate (arcsG qs cs bs hs d).length 0)
def PathN (qs:List Int) (cs:List Ct) (bs:List Bk) (hs:List Hd) (d:Dm) (F:List Int) (ps:PathL) (e:Int):Prop:=PathsOK (vsN qs d) (arcsG qs cs bs hs d) F (vtx d d.s d.r) (vtx d d.d d.e) ps e
def PlanOK (qs:List Int) (cs:List Ct) (bs:List Bk) (hs:List Hd) (d:Dm) (acc:Bool) (vol:Int) (ss:List Sh) (c:Cu):Prop:=
  ∃ F m,MaxN qs cs bs hs d F m 0 ∧ ((m < d.v ∧ acc = false ∧ vol = m ∧ ss = [] ∧ ∃ side k,CutN qs cs bs hs d side k 0 ∧ c = sidesC d qs.length side) ∨
    (d.v ≤ m ∧ acc = true ∧ vol = d.v ∧ c = [] ∧ ∃ ps,PathN qs cs bs hs d F ps 0 ∧ ss = shipsF (arcsE qs cs bs hs d) (partF qs cs bs hs d ps)))
variable {qs:List Int} {cs:List Ct} {bs:List Bk} {hs:List Hd} {d:Dm}
theorem MaxN.uniq {F G:List Int} {m k e f:Int} (h1:MaxN qs cs bs hs d F m e) (h2:MaxN qs cs bs hs d G k f):F = G ∧ m = k ∧ e = f:=MaxOK.uniq h1 h2
theorem PlanOK.uniq {acc acc':Bool} {vol vol':Int} {ss ss':List Sh} {c c':Cu} (h1:PlanOK qs cs bs hs d acc vol ss c) (h2:PlanOK qs cs bs hs d acc' vol' ss' c'):acc = acc' ∧ vol = vol' ∧ ss = ss' ∧ c = c':=by
  obtain ⟨F,m,hm,h1⟩:=h1
  obtain ⟨G,k,hk,h2⟩:=h2
  obtain ⟨rfl,rfl,_⟩:=hm.uniq hk
  rcases h1 with ⟨a1,a2,a3,a4,s1,k1,a5,a6⟩ | ⟨a1,a2,a3,a4,p1,a5,a6⟩ <;> rcases h2 with ⟨b1,b2,b3,b4,s2,k2,b5,b6⟩ | ⟨b1,b2,b3,b4,p2,b5,b6⟩
  · have:=(Go.Flow.CutOK.uniq a5 b5).1
    exact ⟨by rw [a2,b2],by rw [a3,b3],by rw [a4,b4],by rw [a6,b6,this]⟩
  · omega
  · omega
  · have:=(Go.Flow.PathsOK.uniq a5 b5).1
    exact ⟨by rw [a2,b2],by rw [a3,b3],by rw [a6,b6,this],by rw [a4,b4]⟩
theorem path_run (h:VOk qs cs bs hs d) (hv:validT qs cs bs hs d = true) {F:List Int} {m:Int} (hm:MaxN qs cs bs hs d F m 0) {ps:PathL} {e:Int} (hp:PathN qs cs bs hs d F ps e) :
    e = 0 ∧ ∃ N S T:Nat,vsN qs d = N ∧ vtx d d.s d.r = S ∧ vtx d d.d d.e = T ∧ S < N ∧ T < N ∧ S ≠ T ∧ (∀ a ∈ arcsG qs cs bs hs d,Go.Flow.okArc N a = true) ∧ Flw N (arcsG qs cs bs hs d) S T F ∧ m = fval S (arcsG qs cs bs hs d) F ∧ ∃ r,RunP N (arcsG qs cs bs hs d) S T F ps r:=by
  obtain ⟨_,N,S,T,hN,hS,hT,hf,hval,_⟩:=max_cut h hm
  have hsE:=shipsE_flow h hv hN hS hT hf
  have hends:=okEnds_iff.1 h.ends
  have hok:=h.ok
  unfold shipsE at hsE;rw [if_pos hv] at hsE;unfold PathN at hp;rw [hN,hS,hT] at hp hends hsE;rw [hN] at hok
  rcases hp with ⟨a1,_⟩ | ⟨_,a2,r,a3⟩
  · exact absurd hsE a1
  simp only [Int.toNat_natCast] at a3
  exact ⟨a2,N,S,T,hN,hS,hT,by omega,by omega,by omega,hok,hf,hval,r,a3⟩
theorem part_ok (h:VOk qs cs bs hs d) (hv:validT qs cs bs hs d = true) {F:List Int} {m:Int} (hm:MaxN qs cs bs hs d F m 0) {ps:PathL} (hp:PathN qs cs bs hs d F ps 0) (hle:d.v ≤ m) :
    ∃ N S T:Nat,vsN qs d = N ∧ vtx d d.s d.r = S ∧ vtx d d.d d.e = T ∧ Flw N (arcsG qs cs bs hs d) S T (partF qs cs bs hs d ps) ∧ fval S (arcsG qs cs bs hs d) (partF qs cs bs hs d ps) = d.v ∧ shipsE qs cs bs hs d (partF qs cs bs hs d ps) = 0:=by
  obtain ⟨_,N,S,T,hN,hS,hT,s1,s2,s3,hok,hf,hval,r,hr⟩:=path_run h hv hm hp
  have hdm:=h.dm
  unfold okDm at hdm
  obtain ⟨p1,p2⟩:=Go.Flow.part_flow hok s1 s2 s3 hr hf (v:=d.v) (by omega) (by omega)
  exact ⟨N,S,T,hN,hS,hT,p1,p2,shipsE_flow h hv hN hS hT p1⟩
open Go.Flow (addP addAll inCap getD_set inCap_get neededL needed_take quotaL_get restV) in
theorem part_step {l:List Arc} {P:List Int} {m:Int} {x:Go.Flow.Lk} (hc:∀ a ∈ l,a.c ≤ 1099511627776) (h1:inCap l P = true) (hl:P.length = l.length) (h2:inCap l (addP m P x) = true) (hk:x.k < l.length) :
    (0 ≤ P.getD x.k 0 ∧ P.getD x.k 0 ≤ 1099511627776) ∧ (0 ≤ P.getD x.k 0 + m ∧ P.getD x.k 0 + m ≤ 1099511627776):=by
  have ha:=List.getElem?_eq_getElem hk
  have hca:=hc _ (List.getElem_mem hk)
  have e1:P[x.k]? = some (P.getD x.k 0):=by simp [List.getD_eq_getElem?_getD,show x.k < P.length by omega]
  have e2:(addP m P x)[x.k]? = some (P.getD x.k 0 + m):=by
    unfold addP
    simp [show x.k < P.length by omega]
  have b1:=inCap_get l P h1 x.k _ _ ha e1
  have b2:=inCap_get l _ h2 x.k _ _ ha e2
  omega
open Go.Flow (neededL needed_take quotaL_get restV) in
theorem needed_at {ps:PathL} {v:Int} {i:Nat} {q:List Go.Flow.Lk × Int} (h:(neededL ps v)[i]? = some q):(neededL ps v).take i = (quotaL ps v).take i ∧ (neededL ps v).take (i + 1) = (quotaL ps v).take i ++ [q] ∧ (quotaL ps v)[i]? = some q ∧ ∃ p,ps[i]? = some p ∧ q.1 = p.1:=by
  have hi:=(List.getElem?_eq_some_iff.1 h).1
  have e:=needed_take ps v
  have e1:(neededL ps v).take i = (quotaL ps v).take i:=by
    have:=congrArg (List.take i) e
    rwa [List.take_take,Nat.min_eq_left (by omega)] at this
  have e2:(neededL ps v).take (i + 1) = (quotaL ps v).take (i + 1):=by
    have:=congrArg (List.take (i + 1)) e
    rwa [List.take_take,Nat.min_eq_left (by omega)] at this
  have e3:(quotaL ps v)[i]? = some q:=by
    have this:(neededL ps v)[i]? = ((quotaL ps v).take (neededL ps v).length)[i]?:=congrArg (fun l:PathL=>l[i]?) e
    rw [h,List.getElem?_take_of_lt hi] at this;exact this.symm
  refine ⟨e1,?_,e3,?_⟩
  · rw [e2]
    obtain ⟨h1,h2⟩:=List.getElem?_eq_some_iff.1 e3
    rw [List.take_succ_eq_append_getElem h1,h2]
  · rw [quotaL_get] at e3
    obtain ⟨p,h1,h2⟩:=Option.map_eq_some_iff.1 e3
    exact ⟨p,h1,by rw [← h2]⟩
end Go.Step
/- The paths that are needed. -/
namespace Go.Proofs.YtphehihohghfoaaGreat
open Go.Eng Go.Step Go.Flow
set_option maxRecDepth 100000
set_option maxHeartbeats 4000000

theorem pathsV {τ:PH} {es:List (Value × Int)} {ps:PathL} (h:ArcsIn τ es ps) {i:Nat} {e:Value × Int} (he:es[i]? = some e):∃ (q:List Go.Flow.Lk × Int) (a:Option Addr) (c:Nat),ps[i]? = some q ∧ e.2 = q.2 ∧ e.1 = .slice a q.1.length c ∧ IntsAt τ (.slice a (ksOf q.1).length c) (ksOf q.1):=by
 have hi:=(List.getElem?_eq_some_iff.1 he).1
 have hil:i < ps.length:=by rw [← h.1]; exact hi
 have hq:=List.getElem?_eq_getElem hil
 obtain ⟨h1,h2⟩:=h.2 i e _ he hq
 generalize ps[i] = q at hq h1 h2
 obtain ⟨a,c,e1,_⟩:=h2.val Eng.encI_len
 have hl:(ksOf q.1).length = q.1.length:=by unfold ksOf; rw [List.length_map]
 exact ⟨_,a,c,hq,h1,by rw [e1,hl],by rw [← e1]; exact h2⟩
set_option maxHeartbeats 32000000 in
theorem needed_iter (τ:PH) (p:Option Addr) (kk:Nat) (es:List (Value × Int)) (ps:PathL) (hes:SlE encPV 2 τ (.slice p es.length kk) es) (hai:ArcsIn τ es ps) (b1 b2:Nat) (v:Int) (hv:0 ≤ v ∧ v ≤ 1099511627776) (hps:∀ q ∈ ps,0 ≤ q.2) (hl:ps.length ≤ 20000) :
  IterW Tryz.prog (.func (.func 71) #[] #[.pointer (some ⟨b1,0,none⟩),.pointer (some ⟨b2,0,none⟩)]) [sng b1 (.cells #[.slice p es.length kk] 78 (0,0)),τ] [sng b2 (.cells #[int v] 3 (0,0))] (List.zipWith (fun e q=>[e.1,int q.2]) es (neededL ps v)):=by
 intro y S Own Inv Stop Ry hy hyl σ0 hI0
 obtain ⟨yl,rfl⟩:=hyl
 have c1:rdc (sng b1 (.cells #[.slice p es.length kk] 78 (0,0))) b1 0 = some (.slice p es.length kk):=by rw [rdc_sng]; rfl
 have hr:=rowN encPV_len hes
 have hel:=hai.1
 have hxl:∀ k,(neededL ps v).length = k → k ≤ ps.length → (List.zipWith (fun (e:Value × Int) (q:List Go.Flow.Lk × Int)=>[e.1,int q.2]) es (neededL ps v)).length = k:=fun k h1 h2=>by
  rw [List.length_zipWith,h1];omega
 simp only [List.cons_append,List.nil_append]
 refine spec_in (cap:=[.pointer (some ⟨b1,0,none⟩),.pointer (some ⟨b2,0,none⟩)]) Tryz.func71 rfl rfl Tryz.ntmps71 rfl envZ (fun N β=>?_)
 refine CF (H':=sng b2 (.cells #[int v] 3 (0,0)) :: Own σ0) (List.perm_append_comm (l₂:=[_])) ?_;refine Abb ?_;refine Abk ?_
 refine BC [0,1,2,7,8] (X:=Nat × S) (0,σ0) (fun z=>z.1 ≤ ps.length ∧ (∀ j,j < z.1 → restV (ps.take j) v ≠ 0) ∧ Inv z.1 z.2) (fun z=>[(9,int z.1)]) (fun z=>sng b2 (.cells #[int (restV (ps.take z.1) v)] 3 (0,0)) :: Own z.2) (fun z=>ps.length - z.1) pickZ ⟨by dsimp only; omega,fun j hj=>by dsimp only at hj; omega,hI0⟩ covZ Sel.refl ?_
 rintro ⟨k,σ'⟩ ⟨hk,hlf,hI⟩
 dsimp only at hk hlf hI ⊢
 by_cases hlt:k < ps.length
 rotate_left
 ·have hke:k = ps.length:=by omega
  have hx:=hxl k (needed_stop ps v k hlf hk (.inl hke)) hk
  refine Abt ?_
  exact CA (res0 rfl) (fun _ h=>h) (Sel.skip Sel.refl) ⟨σ',rfl,.inl (by rw [hx]; exact hI)⟩
 have hx:=List.getElem?_eq_getElem (show k < es.length by omega)
 obtain ⟨q,a,c,hq,e2,e1,_⟩:=pathsV hai hx
 have hqm:=hps q (List.mem_of_getElem? hq)
 have hlb:=restV_bd (ps.take k) v hv.1 (fun r hr=>hps r (List.mem_of_mem_take hr))
 have hnext:restV (ps.take (k + 1)) v = restV (ps.take k) v - min q.2 (restV (ps.take k) v):=by
  obtain ⟨h1,h2⟩:=List.getElem?_eq_some_iff.1 hq
  rw [List.take_succ_eq_append_getElem h1,h2,restV_snoc,Int.min_comm]
 have hstop:=fun h0=>hxl k (needed_stop ps v k hlf hk (.inr h0)) hk
 have hget:=needed_get ps v k hlf q hq
 obtain ⟨b6,o6,ep,hrd⟩:=hr k _ hx
 rw [show encPV es[k] = [.slice a q.1.length c,int q.2] by unfold encPV; rw [e1,e2]] at hrd
 have hyk:=fun h0=>hy k σ' [.slice a q.1.length c,int (min q.2 (restV (ps.take k) v))] (by rw [List.getElem?_zipWith,hx,hget h0,← e1]) hI
 have hlf2:restV (ps.take k) v ≠ 0 → ∀ j,j < k + 1 → restV (ps.take j) v ≠ 0:=fun h0 j hj=>by
  by_cases hjk:j < k
  ·exact hlf j hjk
  ·have:j = k:=by omega
   subst this;exact h0
 generalize restV (ps.take k) v = L0 at hlb hnext hstop hget hyk hlf2
 subst ep
 by_cases h0:L0 = 0
 ·have hx2:=hstop h0
  refine Ab7 ?_;refine AW ?_; rintro _ _ ⟨b,rfl,rfl⟩;refine AV ?_; rintro _ _ ⟨rfl,rfl⟩;refine Aak ?_;refine Abb ?_;refine CK ?_;refine Aag ?_
  exact AI (res0 rfl) (fun _ h=>h) (Sel.skip (Sel.skip Sel.refl)) ⟨σ',rfl,.inl (by rw [hx2]; exact hI)⟩
 refine Ab7 ?_;refine AW ?_; rintro _ _ ⟨b,rfl,rfl⟩;refine AV ?_; rintro _ _ ⟨rfl,rfl⟩;refine Aak ?_;refine Abb ?_;refine B5 ?_;refine Aal ?_;refine Aao ?_;refine AF ?_;refine E2 ?_;refine Aab ?_;refine Ac4 ?_;refine CZ ?_;refine BB ?_; rintro _ _ ⟨rfl,rfl⟩;refine Adb ?_;refine Aac ?_;refine AB ?_
 refine BF (hyk h0) rfl rfl (Takes.skip (Takes.skip Takes.all)) (fun τ hτ=>.inl (by simp [hτ])) rfl rfl ?_
 rintro _ H' ⟨σ3,rfl,⟨rfl,hI3⟩ | ⟨rfl,hSt⟩⟩
 ·refine CF (H':=_ :: _ :: Own σ3) (List.perm_append_comm (l₂:=[_,_])) ?_
  refine Acc ?_;refine Aa4 ?_
  refine AZ (k + 1,σ3) ⟨by dsimp only; omega,hlf2 h0,hI3⟩ (by dsimp only; omega) covZ ?_
  dsimp only
  rw [hnext]
  first | exact Sel.cons .here (Sel.skip Sel.refl) | exact Sel.skip Sel.refl | exact Sel.cons (.there .here) Sel.refl
 ·refine BD ?_
  refine Aag ?_
  exact AI (res0 rfl) (fun _ h=>h) Sel.left ⟨σ3,rfl,.inr hSt⟩
theorem needed_spec (p:Option Addr) (n kk:Nat) (v:Int) :
  Eng.Spec Tryz.prog (fv 33) [.slice p n kk,int v] [] [] (fun r H'=>∃ b1 b2,r = .func (.func 71) #[] #[.pointer (some ⟨b1,0,none⟩),.pointer (some ⟨b2,0,none⟩)] ∧ H' = [sng b1 (.cells #[.slice p n kk] 78 (0,0)),sng b2 (.cells #[int v] 3 (0,0))]):=by
 refine spec_in (cap:=[]) Tryz.func33 rfl rfl Tryz.ntmps33 rfl envZ (fun N β=>?_)
 refine Aa ?_;refine D9 ?_; rintro _ _ ⟨b,rfl,rfl⟩;refine D9 ?_; rintro _ _ ⟨b,rfl,rfl⟩;refine Aab ?_;refine Aa ?_;refine BX ?_;refine Aab ?_;exact AI (res1 rfl rfl) rsubZ selZ ⟨_,_,rfl,rfl⟩
theorem flat_encI:∀ l:List Int,l.flatMap Eng.encI = l.map int
 | []=>rfl
 | a :: l=>by rw [List.flatMap_cons,flat_encI l]; rfl
theorem ints_at {b:Nat} {t:TypeId} {fr:Nat × Nat} {c:Nat} (l:List Int):IntsAt (sng b (.cells (ints l) t fr)) (.slice (some ⟨b,0,none⟩) l.length c) l:=by
 have:=slE_sng (enc:=Eng.encI) (s:=1) Eng.encI_len (b:=b) (l:=l) (t:=t) (fr:=fr) (c:=c)
 rwa [show elems Eng.encI l = ints l by unfold elems ints; rw [flat_encI]] at this
def AnsAt (σ1 σ2 σ3:PH) (r:Value) (acc:Bool) (vol:Int) (ss:List Sh) (c:Cu):Prop:=
 ∃ (p1:Option Addr) (k1:Nat) (L:List Sq) (p2:Option Addr) (k2:Nat),r = .agg #[.bool acc,int vol,.slice p1 ss.length k1,.slice p2 L.length k2] ∧ ShAt σ1 (.slice p1 ss.length k1) ss ∧ CutL σ2 σ3 (.slice p2 L.length k2) L ∧ cuL L = c
theorem nilCut:CutL emp emp (.slice none 0 0) []:=⟨⟨rfl,.inl ⟨rfl,none,0,rfl⟩⟩,by simp⟩
theorem nilSh:ShAt emp (.slice none 0 0) []:=⟨rfl,.inl ⟨rfl,none,0,rfl⟩⟩
set_option maxHeartbeats 64000000 in
theorem Plan_spec {ρ τ σ υ:PH} {pq pc pb ph:Option Addr} {kq kc kb kh:Nat} {qs:List Int} {cs:List Ct} {bs:List Bk} {hs:List Hd} (hT:TbAt ρ τ σ υ pq pc pb ph kq kc kb kh qs cs bs hs) (d:Dm):Eng.Spec Tryz.prog (fv 11) [.agg #[.slice pq qs.length kq,.slice pc cs.length kc,.slice pb bs.length kb,.slice ph hs.length kh],.agg #[int d.s,int d.d,int d.v,int d.r,int d.e]] [ρ,τ,σ,υ] [] (fun r H'=>(validT qs cs bs hs d = true ∧ ∃ (acc:Bool) (vol:Int) (ss:List Sh) (c:Cu) (a:Value) (σ1 σ2 σ3:PH),r = .tuple #[a,int 0] ∧ H' = [σ1,σ2,σ3] ∧ PlanOK qs cs bs hs d acc vol ss c ∧ AnsAt σ1 σ2 σ3 a acc vol ss c) ∨ (validT qs cs bs hs d = false ∧ H' = [] ∧ r = .tuple #[.agg #[.bool false,int 0,.slice none 0 0,.slice none 0 0],int 1])):=by
 refine spec_in (cap:=[]) Tryz.func11 rfl rfl Tryz.ntmps11 rfl envZ (fun N β=>?_)
 refine Aa ?_;refine BI (BK rfl) rfl rfl rfl ?_;rintro _ _ ⟨b1,rfl,rfl⟩;refine AS (ρ:=sng b1 _) takeZ ?_
 have ct:=rdB b1 29 [.slice pq qs.length kq,.slice pc cs.length kc,.slice pb bs.length kb,.slice ph hs.length kh]
 have ct0:=rdC ct 0
 have ct1:=rdC ct 1
 have ct2:=rdC ct 2
 have ct3:=rdC ct 3
 have ctp:RdP (sng b1 (.cells #[.slice pq qs.length kq,.slice pc cs.length kc,.slice pb bs.length kb,.slice ph hs.length kh] 29 (0,0))) b1 0 [.slice pq qs.length kq,.slice pc cs.length kc]:=rdP_sng (xs:=[.slice pq qs.length kq,.slice pc cs.length kc,.slice pb bs.length kb,.slice ph hs.length kh]) rfl
 refine BI (BK rfl) rfl rfl rfl ?_;rintro _ _ ⟨b2,rfl,rfl⟩;refine AS (ρ:=sng b2 _) takeZ ?_
 have cd:=rdB b2 31 [int d.s,int d.d,int d.v,int d.r,int d.e]
 have cd0:=rdC cd 0
 have cd1:=rdC cd 1
 have cd2:=rdC cd 2
 have cd3:=rdC cd 3
 have cd4:=rdC cd 4
 refine BY ?_;refine BY ?_;refine BY ?_;refine AW ?_; rintro _ _ ⟨b,rfl,rfl⟩;refine Aab ?_;refine Ab5 ?_
 revert b; intro b4
 refine BF (plMax_spec hT d) rfl rfl Takes.nil rdZ rfl rfl ?_;rintro _ H' (⟨hv,pg,kg,pf,kf,F,m,σg,σf,hAt,hF,hm,rfl,rfl⟩ | ⟨hv,rfl,rfl⟩)
 rotate_left
 ·refine AB ?_
  refine Aa5 ?_;refine Aa5 ?_;refine AW ?_; rintro _ _ ⟨b,rfl,rfl⟩;refine AV ?_; rintro _ _ ⟨rfl,rfl⟩;refine Acu ?_;refine Aam ?_;refine Acm ?_;refine Aa ?_;refine BS ?_;refine AB ?_;refine AV ?_; rintro _ _ ⟨rfl,rfl⟩;refine Aab ?_;exact AI (resSE (b1:=b4) (T:=41) (v1:=[.bool false,int 0,.slice none 0 0,.slice none 0 0]) rfl rfl rfl rfl rfl (cells_own memZ)) rsubZ selZ (.inr ⟨hv,rfl,rfl⟩)
 have h:=vok hv
 have hEl:=ea_len qs cs bs hs d h
 have hAl:(arcsG qs cs bs hs d).length = (arcsE qs cs bs hs d).length:=by unfold arcsG; rw [List.length_map]
 refine AS (ρ:=σg) takeZ ?_;refine AS (ρ:=σf) takeZ ?_;refine Aa7 ?_;refine Aa5 ?_;refine AW ?_; rintro _ _ ⟨b,rfl,rfl⟩;refine AV ?_; rintro _ _ ⟨rfl,rfl⟩;refine Acu ?_;refine Aam ?_;refine Ad1 ?_;refine Acy ?_
 revert b; intro bg
 by_cases hd:m < d.v
 ·have hK:=flowCut_spec σg (.slice pg (arcsG qs cs bs hs d).length kg) (vsN qs d) (vtx d d.s d.r) (vtx d d.d d.e) (arcsG qs cs bs hs d) hAt (by omega)
  refine CI ?_;refine Aag ?_;refine Ace ?_;refine Ad6 ?_;refine BZ hK rfl rfl rdZ rfl rfl ?_;rintro _ σk ⟨fs,side,c0,e0,rfl,hI,hk⟩
  obtain ⟨pk,kk2,rfl,_⟩:=hI.val Eng.encI_len
  have hkN:CutN qs cs bs hs d side c0 e0:=hk
  obtain ⟨k1,k2,k3,k4,k5,k6⟩:=cut_facts h hv hm hkN
  subst k1 k2;refine AS (ρ:=σk) takeZ ?_
  have hD:=Sides_spec hT d σk _ side hI (by omega)
  rw [k3,if_pos rfl] at hD;refine Aa7 ?_;refine AO ?_;refine Acu ?_;refine Aam ?_;refine Abc ?_;refine Ab5 ?_;refine AB ?_;refine BF hD rfl rfl Takes.nil rdZ rfl rfl ?_;rintro _ _ ⟨L,w,σ3,χ3,rfl,rfl,hL,hCL⟩
  obtain ⟨p2,k2,rfl,_⟩:=hCL.1.val encQ_len
  refine Abe ?_;refine Abn ?_;refine BS ?_;refine AB ?_;refine AV ?_; rintro _ _ ⟨rfl,rfl⟩;refine Aab ?_;exact AI (resSE (b1:=b4) (T:=41) (v1:=[.bool false,int c0,.slice none 0 0,.slice p2 L.length k2]) rfl rfl rfl rfl rfl (cells_own memZ)) rsubZ selZ (.inl ⟨hv,false,c0,[],sidesC d qs.length side,_,emp,σ3,χ3,rfl,rfl,⟨F,c0,hm,.inl ⟨hd,rfl,rfl,rfl,side,c0,hkN,rfl⟩⟩,⟨none,0,L,p2,k2,rfl,nilSh,hCL,hL⟩⟩)
 have hP:=flowPaths_spec σg σf (.slice pg (arcsG qs cs bs hs d).length kg) (.slice pf F.length kf) (vsN qs d) (vtx d d.s d.r) (vtx d d.d d.e) (arcsG qs cs bs hs d) F hAt hF (by omega)
 refine Aed ?_;refine Ace ?_;refine Aa9 ?_;refine BZ hP rfl rfl rdZ rfl rfl ?_;rintro _ τp ⟨w,ps,e,rfl,hPA,hPO⟩
 have hPN:PathN qs cs bs hs d F ps e:=hPO
 obtain ⟨he,_⟩:=path_run h hv hm hPN
 subst he
 obtain ⟨_,N0,S0,T0,hN,hS,hT0,s1,s2,s3,hok,hfw,hmv,rr,hrun⟩:=path_run h hv hm hPN
 have hdm:=h.dm
 unfold okDm at hdm
 have hps0:∀ q ∈ ps,0 ≤ q.2:=fun q hq=>Int.le_of_lt (hrun.pos hok s1 s3 hfw q hq)
 have hsm:=paths_small hPO
 obtain ⟨_,_,_,_,_,_,_,_,hse⟩:=part_ok h hv hm hPN (show d.v ≤ m by omega)
 have hmid:=fun (j i:Nat) (q:List Go.Flow.Lk × Int) (hq:(quotaL ps d.v)[j]? = some q)=>part_mid (i:=i) hok s1 s3 hrun hfw (v:=d.v) (by omega) hq
 have harc:=run_arcs hok s1 s3 hrun hfw
 have hcapb:∀ a ∈ arcsG qs cs bs hs d,a.c ≤ 1099511627776:=fun a ha=>(okArc_iff.1 (hok a ha)).2.2.2.2.2.2
 obtain ⟨es,hes,hai⟩:=hPA
 obtain ⟨pp,kp,rfl,_⟩:=hes.val encPV_len
 refine AS (ρ:=τp) takeZ ?_
 have hlZ:(List.replicate (arcsG qs cs bs hs d).length (0:Int)).length = (arcsG qs cs bs hs d).length:=List.length_replicate
 have hfin:addMany (neededL ps d.v) (List.replicate (arcsG qs cs bs hs d).length 0) = partF qs cs bs hs d ps:=needed_sum ps d.v _ hps0
 refine Ac ?_;refine Abc ?_;refine Aao ?_;refine AX ?_;refine DR ?_; rintro _ _ ⟨b,rfl,rfl⟩;refine BQ ?_; rintro _ _ ⟨b,rfl,rfl⟩;refine BB ?_; rintro _ _ ⟨rfl,rfl⟩;refine Aak ?_;refine Aad ?_;refine Aac ?_
 revert b; intro bp
 revert b; intro bz
 refine AS (ρ:=sng bp _) takeZ ?_
 have bpf:rdc (sng bp (.cells #[.slice (some ⟨bz,0,none⟩) (arcsG qs cs bs hs d).length (arcsG qs cs bs hs d).length] 22 (0,0))) bp 0 = some (.slice (some ⟨bz,0,none⟩) (arcsG qs cs bs hs d).length (arcsG qs cs bs hs d).length):=by rw [rdc_sng]; rfl
 refine BF (needed_spec pp es.length kp d.v) rfl rfl Takes.nil (fun τ hτ=>by simp at hτ) rfl rfl ?_
 rintro _ _ ⟨b5,b6,rfl,rfl⟩;refine AS (ρ:=sng b5 _) takeZ ?_;refine AE ?_;refine AP ?_
 refine FR (gf:=71) (cap:=[.pointer (some ⟨b5,0,none⟩),.pointer (some ⟨b6,0,none⟩)]) (ps:=[90,91]) (X:=List Int) rfl Tryz.func71 rfl rfl
  (needed_iter τp pp kp es ps hes hai b5 b6 d.v (by omega) hps0 hsm.1) ?_
  (fun i x=>x = addMany ((neededL ps d.v).take i) (List.replicate (arcsG qs cs bs hs d).length 0))
  (fun x=>[sng bz (.cells (ints x) 3 (0,0))]) (fun _ _=>False) (List.replicate (arcsG qs cs bs hs d).length 0) rfl takesZ rfl ?_ ?_ ?_
 ·intro σ' hσ
  simp only [List.mem_cons,List.not_mem_nil,or_false] at hσ ⊢
  rcases hσ with h | h <;> simp [h]
 ·rintro lo r i x vs hvs hx hps has hbd hst hpe hfr
  obtain ⟨st,pe,fnn,tm,prm,asg,bdy,df⟩:=r
  simp only at hps has hbd hst hpe hfr;subst hps hst hpe;rw [List.getElem?_zipWith] at hvs
  cases he:es[i]? with
  | none=>simp [he] at hvs
  | some e =>
  cases hq:(neededL ps d.v)[i]? with
  | none=>simp [he,hq] at hvs
  | some q =>
  simp only [he,hq,Option.some.injEq] at hvs;subst hvs
  obtain ⟨n1,n2,n3,p0,n4,n5⟩:=needed_at hq
  obtain ⟨q',a,c,hq',e2,e1,hIa⟩:=pathsV hai he
  rw [n4] at hq'
  obtain rfl:=Option.some.inj hq'
  rw [← n5] at e1 hIa
  have hmid2:=fun j=>hmid i j q n3
  have hark:=fun x hx=>harc p0 (List.mem_of_getElem? n4) x (by rw [← n5]; exact hx)
  subst hx;rw [n1,n2,e1];simp only [addMany_snoc]
  generalize addMany ((quotaL ps d.v).take i) (List.replicate (arcsG qs cs bs hs d).length 0) = P0 at hmid2
  obtain ⟨_,_,ea,hra⟩:=hIa.val Eng.encI_len
  simp only [Value.slice.injEq] at ea
  obtain ⟨rfl,_,rfl⟩:=ea
  have hql:(ksOf q.1).length = q.1.length:=by unfold ksOf; rw [List.length_map]
  have hq2:=(hsm.2 p0 (List.mem_of_getElem? n4))
  rw [← n5] at hq2
  refine yield_specE has hbd hfr rfl (by intro p hp; simp at hp; omega) putiZ (fun N' β'=>?_)
  refine Aaj ?_;refine AA ?_;refine Aab ?_;refine CM rfl rfl ?_;refine CV takeZ rfl ?_;refine AP ?_;refine Aad ?_;refine Abk ?_
  refine BC [15,17,92,93] (0:Nat) (fun j=>j ≤ q.1.length) (fun j=>[(94,int j)]) (fun j=>[sng bz (.cells (ints (addAll q.2 P0 (q.1.take j))) 3 (0,0)),sng lo (.loop { state:=.busy,pending:=none,fn:=fnn,tmps:=tm,params:=[90,91].toArray,assign:=asg,body:=bdy,defers:=df })]) (fun j=>q.1.length - j) pickZ (by omega) covZ selZ ?_
  rintro j hj
  by_cases hlt:j < q.1.length
  rotate_left
  ·rw [List.take_of_length_le (by omega)]
   refine Abt ?_;refine A4 ?_;exact BP takeZ rsubZ selZ ⟨addAll q.2 P0 q.1,.inl ⟨rfl,rfl,rfl⟩⟩
  have hx:=List.getElem?_eq_getElem hlt
  have hm1:=hmid2 j
  have hm2:=hmid2 (j + 1)
  rw [List.take_succ_eq_append_getElem hlt,addAll_snoc] at hm2
  have hxk:=hark _ (List.getElem_mem hlt)
  have hta:addAll q.2 P0 (q.1.take (j + 1)) = addP q.2 (addAll q.2 P0 (q.1.take j)) q.1[j]:=by rw [List.take_succ_eq_append_getElem hlt,addAll_snoc]
  have hkx:(ksOf q.1)[j]? = some ((q.1[j].k:Nat):Int):=by unfold ksOf; rw [List.getElem?_map,hx]; rfl
  obtain ⟨b7,o7,ep,gk⟩:=hra.int hkx
  generalize addAll q.2 P0 (q.1.take j) = P at hm1 hm2 hta
  generalize q.1[j] = y at hx hm2 hxk hta gk hkx
  obtain ⟨s4,s5⟩:=part_step hcapb hm1.1 hm1.2 hm2.1 hxk
  have hPl:=hm1.2
  subst ep;refine Adh ?_;refine Aab ?_;refine AA ?_;refine Acb ?_;refine BT ?_;refine Acb ?_;refine CS ?_;refine BT ?_;refine C4 ?_; rintro _ _ ⟨rfl,rfl⟩;refine Ade ?_
  refine AZ (j + 1) (by omega) (by omega) covZ ?_
  rw [hta];exact selZ
 ·rintro b9 x hx
  have hxl:(List.zipWith (fun (e:Value × Int) (q:List Go.Flow.Lk × Int)=>[e.1,int q.2]) es (neededL ps d.v)).length = (neededL ps d.v).length:=by
   have:=needed_len ps d.v
   have:=hai.1
   rw [List.length_zipWith];omega
  rw [hxl,List.take_length,hfin] at hx;subst hx
  have hpl2:(partF qs cs bs hs d ps).length = (arcsG qs cs bs hs d).length:=by unfold partF; rw [addMany_len,hlZ]
  have hIz:IntsAt (sng bz (.cells (ints (partF qs cs bs hs d ps)) 3 (0,0))) (.slice (some ⟨bz,0,none⟩) (arcsG qs cs bs hs d).length (arcsG qs cs bs hs d).length) (partF qs cs bs hs d ps):=by
   rw [← hpl2];exact ints_at _
  have hSh:=Shipments_spec hT d _ _ _ hIz
  rw [hse,show shipsR qs cs bs hs d (partF qs cs bs hs d ps) = shipsF (arcsE qs cs bs hs d) (partF qs cs bs hs d ps) by unfold shipsR; rw [if_pos hse]] at hSh
  refine AS (ρ:=sng bz _) takeZ ?_;refine A4 ?_;refine Ab5 ?_;refine AF ?_;refine BZ hSh rfl rfl rdZ rfl rfl ?_;rintro _ σs ⟨us,rfl,hOs⟩
  have hSs:ShAt σs us (shipsF (arcsE qs cs bs hs d) (partF qs cs bs hs d ps)):=hOs.at
  obtain ⟨p1,k1,rfl⟩:=hOs.form
  refine Abe ?_;refine Acy ?_;refine BS ?_;refine AB ?_;refine AV ?_; rintro _ _ ⟨rfl,rfl⟩;refine Aab ?_
  refine D5 (v:=.tuple #[.agg #[.bool true,int d.v,.slice p1 (shipsF (arcsE qs cs bs hs d) (partF qs cs bs hs d ps)).length k1,.slice none 0 0],int 0]) (Marks.cons takeZ .nil) ?_ rsubZ ?_ (.inl ⟨hv,true,d.v,shipsF (arcsE qs cs bs hs d) (partF qs cs bs hs d ps),[],_,σs,emp,emp,rfl,rfl,⟨F,m,hm,.inr ⟨by omega,rfl,rfl,rfl,ps,hPN,rfl⟩⟩,⟨p1,k1,[],none,0,rfl,hSs,nilCut,rfl⟩⟩)
  ·exact resSE (b1:=b4) (T:=41) (v1:=[.bool true,int d.v,.slice p1 (shipsF (arcsE qs cs bs hs d) (partF qs cs bs hs d ps)).length k1,.slice none 0 0]) rfl rfl rfl rfl rfl (cells_own memZ)
  ·exact selZ
 ·rintro _ _ _ h; exact h.elim
end Go.Proofs.YtphehihohghfoaaGreat
/- The document's plan; answers compared. -/
namespace Go.Proofs.YtphehihohghfoaaGreat
open Go.Eng Go.Step Go.Flow
set_option maxRecDepth 100000
set_option maxHeartbeats 4000000

end Go.Proofs.YtphehihohghfoaaGreat
/- Maximum flows as shipments; cuts of sets. No program in sight. No conditions. -/
namespace Go.Step
open Go.Flow (Flw fval)
variable {qs:List Int} {cs:List Ct} {bs:List Bk} {hs:List Hd} {d:Dm}
theorem max_nonneg (h:VOk qs cs bs hs d) {F:List Int} {m e:Int} (hm:MaxN qs cs bs hs d F m e):0 ≤ m:=by
  obtain ⟨_,_,_,_,_,_,_,_,_,P,_,_,hP⟩:=max_cut h hm
  have hdm:=h.dm
  unfold okDm at hdm
  have hn:0 < qs.length:=by have:=h.nq; omega
  have h1:=waitB_nonneg h P hn d.r
  have h2:=capB_wait_le h P hn (t:=d.r) (Int.le_refl _) (by omega)
  omega
theorem max_small (h:VOk qs cs bs hs d) {F:List Int} {m e:Int} (hm:MaxN qs cs bs hs d F m e):m ≤ 6400000:=by
  obtain ⟨_,N,S,T,hN,hS,hT,hf,hv,_⟩:=max_cut h hm
  have hdm:=h.dm
  unfold okDm at hdm;rw [hv]
  refine Int.le_trans (flow_le_cap h hN hS hT hf (P:=fun n _=>decide (n ≠ d.d)) ?_ (by simp)) (capB_dest h)
  exact decide_eq_true (by omega)
end Go.Step
/- How much can be brought until when. No program in sight. No conditions. -/
namespace Go.Step
variable {qs:List Int} {cs:List Ct} {bs:List Bk} {hs:List Hd} {d:Dm}
def atE (d:Dm) (t:Int):Dm:=⟨d.s,d.d,d.v,d.r,t⟩
open Classical in
noncomputable def mostV (qs:List Int) (cs:List Ct) (bs:List Bk) (hs:List Hd) (d:Dm):Int:=if h:∃ m F,MaxN qs cs bs hs d F m 0 then Classical.choose h else 0
theorem mostV_eq {F:List Int} {m:Int} (hm:MaxN qs cs bs hs d F m 0):mostV qs cs bs hs d = m:=by
  have h:∃ m F,MaxN qs cs bs hs d F m 0:=⟨m,F,hm⟩
  unfold mostV;rw [dif_pos h]
  obtain ⟨G,hG⟩:=Classical.choose_spec h
  exact (hG.uniq hm).2.1
noncomputable def mostK (qs:List Int) (cs:List Ct) (bs:List Bk) (hs:List Hd) (d:Dm) (k:Nat):Int:=if k = 0 then 0 else mostV qs cs bs hs (atE d (d.r + k))
noncomputable def curveK (qs:List Int) (cs:List Ct) (bs:List Bk) (hs:List Hd) (d:Dm):Nat → List Lv
  | 0=>[]
  | k + 1=>curveK qs cs bs hs d k ++ (if mostK qs cs bs hs d (k + 1) ≠ mostK qs cs bs hs d k then [⟨d.r + (k + 1:Nat),mostK qs cs bs hs d (k + 1)⟩] else [])
theorem curveK_len (qs:List Int) (cs:List Ct) (bs:List Bk) (hs:List Hd) (d:Dm):∀ k,(curveK qs cs bs hs d k).length ≤ k
  | 0=>Nat.le_refl _
  | k + 1=>by
    have:=curveK_len qs cs bs hs d k
    unfold curveK;rw [List.length_append]
    split <;> simp <;> omega
theorem valid_at (hv:validT qs cs bs hs d = true) {k:Nat} (h1:d.r + (k + 1:Nat) ≤ d.e):validT qs cs bs hs (atE d (d.r + (k + 1:Nat))) = true:=by
  obtain ⟨h,hd⟩:=of_decide_eq_true hv
  refine decide_eq_true ⟨h,?_⟩;unfold okDm at hd ⊢;unfold atE
  dsimp only
  omega
theorem mostK_eq {k:Nat} {F:List Int} {m:Int} (hm:MaxN qs cs bs hs (atE d (d.r + (k + 1:Nat))) F m 0):mostK qs cs bs hs d (k + 1) = m:=by
  unfold mostK
  rw [if_neg (by omega)]
  exact mostV_eq hm
end Go.Step
/- Curves. -/
namespace Go.Proofs.YtphehihohghfoaaGreat
open Go.Eng Go.Step
set_option maxRecDepth 100000
set_option maxHeartbeats 4000000

set_option maxHeartbeats 32000000 in
theorem Curve_spec {ρ τ σ υ:PH} {pq pc pb ph:Option Addr} {kq kc kb kh:Nat} {qs:List Int} {cs:List Ct} {bs:List Bk} {hs:List Hd} (hT:TbAt ρ τ σ υ pq pc pb ph kq kc kb kh qs cs bs hs) (d:Dm):Makes Tryz.prog (fv 13) [.agg #[.slice pq qs.length kq,.slice pc cs.length kc,.slice pb bs.length kb,.slice ph hs.length kh],.agg #[int d.s,int d.d,int d.v,int d.r,int d.e]] [ρ,τ,σ,υ] (fun r χ=>∃ u,r = .tuple #[u,int (if validT qs cs bs hs d = true then 0 else 1)] ∧ OwnS 50 2 u (if validT qs cs bs hs d = true then curveK qs cs bs hs d (d.e - d.r).toNat else []).length ((if validT qs cs bs hs d = true then curveK qs cs bs hs d (d.e - d.r).toNat else []).flatMap encV) χ ∧ (validT qs cs bs hs d = true → ∀ j,j < (d.e - d.r).toNat → ∃ F m,MaxN qs cs bs hs (atE d (d.r + ((j + 1:Nat):Int))) F m 0)):=by
 refine spec_in (cap:=[]) Tryz.func13 rfl rfl Tryz.ntmps13 rfl envZ (fun N β=>?_)
 refine Aa ?_;refine BI (BK rfl) rfl rfl rfl ?_;rintro _ _ ⟨b1,rfl,rfl⟩;refine AS (ρ:=sng b1 _) takeZ ?_
 have ct:=rdB b1 29 [.slice pq qs.length kq,.slice pc cs.length kc,.slice pb bs.length kb,.slice ph hs.length kh]
 have ct0:=rdC ct 0
 have ct1:=rdC ct 1
 have ct2:=rdC ct 2
 have ct3:=rdC ct 3
 have ctp:RdP (sng b1 (.cells #[.slice pq qs.length kq,.slice pc cs.length kc,.slice pb bs.length kb,.slice ph hs.length kh] 29 (0,0))) b1 0 [.slice pq qs.length kq,.slice pc cs.length kc]:=rdP_sng (xs:=[.slice pq qs.length kq,.slice pc cs.length kc,.slice pb bs.length kb,.slice ph hs.length kh]) rfl
 refine BI (BK rfl) rfl rfl rfl ?_;rintro _ _ ⟨b2,rfl,rfl⟩;refine AS (ρ:=sng b2 _) takeZ ?_
 have cd:=rdB b2 31 [int d.s,int d.d,int d.v,int d.r,int d.e]
 have cd0:=rdC cd 0
 have cd1:=rdC cd 1
 have cd2:=rdC cd 2
 have cd3:=rdC cd 3
 have cd4:=rdC cd 4
 refine BY ?_;refine Aan ?_;refine AC ?_;refine Ab5 ?_;refine BZ (Graph_spec hT d) rfl rfl rdZ rfl rfl ?_;rintro _ σg hg
 by_cases hv:validT qs cs bs hs d = true
 rotate_left
 ·rw [if_neg hv] at hg
  obtain ⟨rfl,rfl⟩:=hg
  rw [if_neg hv,if_neg hv];refine Aa7 ?_;refine AW ?_; rintro _ _ ⟨b,rfl,rfl⟩;refine AV ?_; rintro _ _ ⟨rfl,rfl⟩;refine Ab ?_;refine Acm ?_;refine Acf ?_
  exact AI (res2 rfl rfl rfl) rsubZ selZ ⟨emp,⟨_,rfl,OwnS.nil _ _,fun hh=>absurd hh hv⟩,rfl⟩
 rw [if_pos hv] at hg
 obtain ⟨ug,rfl,hOg⟩:=hg
 obtain ⟨pg,kg,rfl⟩:=hOg.form
 rw [if_pos hv,if_pos hv]
 have h:=vok hv
 have hdm:=h.dm
 unfold okDm at hdm;refine Aa7 ?_;refine AW ?_; rintro _ _ ⟨b,rfl,rfl⟩;refine AV ?_; rintro _ _ ⟨rfl,rfl⟩;refine Ab ?_;refine Abc ?_;refine Ad5 ?_;refine AC ?_;refine Aao ?_;refine CS ?_;refine Aab ?_;refine AP ?_
 refine BC [2,3] (X:=Nat × Value × PH) (0,.slice none 0 0,emp) (fun z=>z.1 ≤ (d.e - d.r).toNat ∧ (∀ j,j < z.1 → ∃ F m,MaxN qs cs bs hs (atE d (d.r + ((j + 1:Nat):Int))) F m 0) ∧ OwnS 50 2 z.2.1 (curveK qs cs bs hs d z.1).length ((curveK qs cs bs hs d z.1).flatMap encV) z.2.2) (fun z=>[(10,int (d.r + (z.1 + 1:Nat))),(9,int (mostK qs cs bs hs d z.1)),(8,z.2.1)]) (fun z=>[z.2.2]) (fun z=>(d.e - d.r).toNat - z.1) pickZ ⟨by dsimp only; omega,fun j hj=>by dsimp only at hj; omega,OwnS.nil _ _⟩ covZ selZ ?_
 rintro ⟨k,u,σo⟩ ⟨hk,hex,hO⟩
 dsimp only at hk hex hO ⊢
 by_cases hlt:k < (d.e - d.r).toNat
 rotate_left
 ·have hke:k = (d.e - d.r).toNat:=by omega
  subst hke;refine Aeh ?_;refine CJ ?_;refine Ac3 ?_;refine Adu ?_
  exact AI (res2 rfl rfl rfl) rsubZ selZ ⟨σo,⟨u,rfl,hO,fun _=>hex⟩,rfl⟩
 have hv2:validT qs cs bs hs ⟨d.s,d.d,d.v,d.r,d.r + (k + 1:Nat)⟩ = true:=valid_at hv (by omega)
 have hM:=Most_spec hT ⟨d.s,d.d,d.v,d.r,d.r + (k + 1:Nat)⟩
 have hcl:=curveK_len qs cs bs hs d k
 have hcn:curveK qs cs bs hs d (k + 1) = curveK qs cs bs hs d k ++ (if mostK qs cs bs hs d (k + 1) ≠ mostK qs cs bs hs d k then [⟨d.r + (k + 1:Nat),mostK qs cs bs hs d (k + 1)⟩] else []):=rfl
 have hnx:d.r + ((k + 1:Nat):Int) + 1 = d.r + (((k + 1) + 1:Nat):Int):=by omega
 refine Aeh ?_;refine CL ?_;refine Acv ?_;refine Abo ?_;refine AW ?_; rintro _ _ ⟨b,rfl,rfl⟩;refine AV ?_; rintro _ _ ⟨rfl,rfl⟩;refine Adb ?_;refine AH ?_;refine BB ?_; rintro _ _ ⟨rfl,rfl⟩;refine AE ?_;refine Ab5 ?_
 revert b; intro bd
 refine A3 hM rfl rfl rdZ rfl rfl ?_;rintro _ (⟨_,F,m,hm,rfl⟩ | ⟨hv3,rfl⟩)
 rotate_left
 ·rw [hv2] at hv3; simp at hv3
 have hex2:∀ j,j < k + 1 → ∃ F m,MaxN qs cs bs hs (atE d (d.r + ((j + 1:Nat):Int))) F m 0:=fun j hj=>by
  by_cases hjk:j < k
  ·exact hex j hjk
  ·have:j = k:=by omega
   subst this;exact ⟨F,m,hm⟩
 have hmk:mostK qs cs bs hs d (k + 1) = m:=mostK_eq hm
 rw [hmk] at hcn
 generalize mostK qs cs bs hs d k = M0 at hcn
 generalize curveK qs cs bs hs d k = C0 at hO hcl hcn
 by_cases hc:m = M0
 ·rw [if_neg (fun hh=>hh hc),List.append_nil] at hcn
  refine Ac ?_;refine Abc ?_;refine Abn ?_;refine Abc ?_;refine Ach ?_;refine CS ?_;refine Aab ?_
  refine AZ (k + 1,u,σo) ⟨by dsimp only; omega,hex2,by dsimp only; rw [hcn]; exact hO⟩ (by dsimp only; omega) ?_ selZ
  dsimp only
  rw [hmk,← hnx,hc];exact covZ
 ·rw [if_pos hc] at hcn
  refine Ac ?_;refine Abc ?_;refine Abn ?_;refine Acm ?_;refine Aad ?_;refine Aax ?_;refine BS ?_;refine BH ?_; rintro _ _ ⟨b,rfl,rfl⟩
  refine BI (B6 (by_:=16) (s:=2) (news:=[int (d.r + ((k + 1:Nat):Int)),int m]) rfl rfl rfl rfl rfl rfl rfl hO takeZ (cells_own memZ) rfl (by (repeat (first | exact (fun v hv=>absurd hv List.not_mem_nil) | (refine List.forall_mem_cons.2 ⟨?_,?_⟩; (focus (first | exact rfl | assumption))))); first | done | fail) (by omega) (by simp only [maxLen]; omega) (by omega)) rfl rfl rfl ?_
  rintro u1 _ ⟨σ1,hO1,rfl⟩;refine Aab ?_;refine AA ?_;refine AB ?_;refine Aab ?_;refine Ach ?_;refine CS ?_;refine Aab ?_
  refine AZ (k + 1,u1,σ1) ⟨by dsimp only; omega,hex2,?_⟩ (by dsimp only; omega) ?_ selZ
  ·dsimp only
   rw [hcn,List.length_append,List.flatMap_append];exact hO1
  ·dsimp only
   rw [hmk,← hnx];exact covZ
end Go.Proofs.YtphehihohghfoaaGreat
/- Profiles and peaks, of the program and of the reference. -/
namespace Go.Proofs.YtphehihohghfoaaGreat
open Go.Eng Go.Step
set_option maxRecDepth 100000
set_option maxHeartbeats 4000000

end Go.Proofs.YtphehihohghfoaaGreat
/- Where a node can store more, of the program. -/
namespace Go.Proofs.YtphehihohghfoaaGreat
open Go.Eng Go.Step
set_option maxRecDepth 100000
set_option maxHeartbeats 4000000

end Go.Proofs.YtphehihohghfoaaGreat
/- Where a node can store more, of the program: Free. -/
namespace Go.Proofs.YtphehihohghfoaaGreat
open Go.Eng Go.Step
set_option maxRecDepth 100000
set_option maxHeartbeats 4000000

end Go.Proofs.YtphehihohghfoaaGreat
